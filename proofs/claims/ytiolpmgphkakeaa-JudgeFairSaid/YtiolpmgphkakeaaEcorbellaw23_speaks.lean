/- corbellaw23_speaks, told on plain data. Written by program. -/
import Derived.Test.YtiolpmgphkakeaaExor_Zero
import Derived.Test.YtiolpmgphkakeaaEslices_Repeat
import Derived.Test.YtiolpmgphkakeaaEslices_Clone
set_option linter.unusedVariables false
set_option maxRecDepth 1000000
namespace Go.Proofs.Ytiolpmgphkakeaa.Ev
open Go Go.RowKit Go.Proofs
def corbellaw23_speaks_i33_5_j0 {R : Type} (e0 : Option R) (k : Nat) (v_6506 : Bool) : Option R :=
  bif v_6506 then
    none
  else e0
def corbellaw23_speaks_i10_5_l0s {R : Type} (rc : Int → ByteArray → List (Int × ByteArray) → Option R) (e0 : List (Int × ByteArray) → Option R) (k : Nat) (block_6523 : Int) (data_6524 : ByteArray) (j_6534 : List (Int × ByteArray)) : Option R :=
  bif (!(decide (data_6524 = (⟨#[]⟩ : ByteArray)))) then
    bif (decide ((64 : Int) ≤ (sizeI data_6524))) then
      let z_6539 := (data_6524.extract (0 : Int).toNat (64 : Int).toNat)
      bif (decide (j_6534.length + ([(block_6523, z_6539)] : List (Int × ByteArray)).length ≤ 1099511627776)) then
        bif ((decide ((64 : Int) ≤ (sizeI data_6524))) && (decide ((sizeI data_6524) ≤ (sizeI data_6524)))) then
          rc (wrap64 (block_6523 + (1 : Int))) (data_6524.extract (64 : Int).toNat (sizeI data_6524).toNat) (j_6534 ++ ([(block_6523, z_6539)] : List (Int × ByteArray)))
        else none
      else none
    else none
  else e0 j_6534
def corbellaw23_speaks_i10_5_l0 {R : Type} (e0 : List (Int × ByteArray) → Option R) (k : Nat) : Nat → Int → ByteArray → List (Int × ByteArray) → Option R
  | 0 => fun _ _ _ => none
  | j + 1 => corbellaw23_speaks_i10_5_l0s (corbellaw23_speaks_i10_5_l0 e0 k j) e0 k
def corbellaw23_speaks_i33_6_j0 {R : Type} (e0 : Option R) (k : Nat) (v_6565 : Bool) : Option R :=
  bif v_6565 then
    none
  else e0
def corbellaw23_speaks_i10_6_l0s {R : Type} (rc : Int → ByteArray → List (Int × ByteArray) → Option R) (e0 : List (Int × ByteArray) → Option R) (k : Nat) (block_6586 : Int) (data_6587 : ByteArray) (j_6597 : List (Int × ByteArray)) : Option R :=
  bif (!(decide (data_6587 = (⟨#[]⟩ : ByteArray)))) then
    bif (decide ((64 : Int) ≤ (sizeI data_6587))) then
      let z_6602 := (data_6587.extract (0 : Int).toNat (64 : Int).toNat)
      bif (decide (j_6597.length + ([(block_6586, z_6602)] : List (Int × ByteArray)).length ≤ 1099511627776)) then
        bif ((decide ((64 : Int) ≤ (sizeI data_6587))) && (decide ((sizeI data_6587) ≤ (sizeI data_6587)))) then
          rc (wrap64 (block_6586 + (1 : Int))) (data_6587.extract (64 : Int).toNat (sizeI data_6587).toNat) (j_6597 ++ ([(block_6586, z_6602)] : List (Int × ByteArray)))
        else none
      else none
    else none
  else e0 j_6597
def corbellaw23_speaks_i10_6_l0 {R : Type} (e0 : List (Int × ByteArray) → Option R) (k : Nat) : Nat → Int → ByteArray → List (Int × ByteArray) → Option R
  | 0 => fun _ _ _ => none
  | j + 1 => corbellaw23_speaks_i10_6_l0s (corbellaw23_speaks_i10_6_l0 e0 k j) e0 k
def corbellaw23_speaks_i33_6_j0b {R : Type} (e0 : Option R) (k : Nat) (v_6628 : Bool) : Option R :=
  bif v_6628 then
    none
  else e0
def corbellaw23_speaks_i10_6_l0bs {R : Type} (rc : Int → ByteArray → List (Int × ByteArray) → Option R) (e0 : List (Int × ByteArray) → Option R) (k : Nat) (block_6649 : Int) (data_6650 : ByteArray) (j_6660 : List (Int × ByteArray)) : Option R :=
  bif (!(decide (data_6650 = (⟨#[]⟩ : ByteArray)))) then
    bif (decide ((64 : Int) ≤ (sizeI data_6650))) then
      let z_6665 := (data_6650.extract (0 : Int).toNat (64 : Int).toNat)
      bif (decide (j_6660.length + ([(block_6649, z_6665)] : List (Int × ByteArray)).length ≤ 1099511627776)) then
        bif ((decide ((64 : Int) ≤ (sizeI data_6650))) && (decide ((sizeI data_6650) ≤ (sizeI data_6650)))) then
          rc (wrap64 (block_6649 + (1 : Int))) (data_6650.extract (64 : Int).toNat (sizeI data_6650).toNat) (j_6660 ++ ([(block_6649, z_6665)] : List (Int × ByteArray)))
        else none
      else none
    else none
  else e0 j_6660
def corbellaw23_speaks_i10_6_l0b {R : Type} (e0 : List (Int × ByteArray) → Option R) (k : Nat) : Nat → Int → ByteArray → List (Int × ByteArray) → Option R
  | 0 => fun _ _ _ => none
  | j + 1 => corbellaw23_speaks_i10_6_l0bs (corbellaw23_speaks_i10_6_l0b e0 k j) e0 k
def corbellaw23_speaks_i12_6_j2 {R : Type} (e0 : Int → Option R) (k : Nat) (v_6719 : Int) : Option R :=
  e0 (wrap64 (v_6719 + (1 : Int)))
def corbellaw23_speaks_i12_6_l1s {R : Type} (rc : Int → Int → Option R) (e0 : Int → Option R) (k : Nat) (v_6699 : Int) (h_6711 : ByteArray) (h_6713 : List ByteArray) (wrong_6698 : Int) (v_6700 : Int) : Option R :=
  bif (decide (v_6700 < v_6699)) then
    bif ((decide ((0 : Int) ≤ v_6700)) && (decide (v_6700 < (lenI h_6713)))) then
      optb (h_6713[v_6700.toNat]?) fun x_6714 =>
      let z_6715 := (wrap64 ((wrap64 (v_6700 + (1 : Int))) * (64 : Int)))
      bif (((decide ((0 : Int) ≤ (wrap64 (v_6700 * (64 : Int))))) && (decide ((wrap64 (v_6700 * (64 : Int))) ≤ z_6715))) && (decide (z_6715 ≤ (sizeI h_6711)))) then
        bif (!(decide (x_6714 = (h_6711.extract (wrap64 (v_6700 * (64 : Int))).toNat z_6715.toNat)))) then
          corbellaw23_speaks_i12_6_j2 (fun v_6735 =>
            rc (wrap64 (wrong_6698 + (1 : Int))) v_6735) k v_6700
        else corbellaw23_speaks_i12_6_j2 (fun v_6751 =>
          rc wrong_6698 v_6751) k v_6700
      else none
    else none
  else e0 wrong_6698
def corbellaw23_speaks_i12_6_l1 {R : Type} (e0 : Int → Option R) (k : Nat) (v_6699 : Int) (h_6711 : ByteArray) (h_6713 : List ByteArray) : Nat → Int → Int → Option R
  | 0 => fun _ _ => none
  | j + 1 => corbellaw23_speaks_i12_6_l1s (corbellaw23_speaks_i12_6_l1 e0 k v_6699 h_6711 h_6713 j) e0 k v_6699 h_6711 h_6713
def corbellaw23_speaks_i12_6_j4 {R : Type} (e0 : Int → List ByteArray → Option R) (k : Nat) (wrong_6799 : Int) (h_6811 : ByteArray) (h_6813 : List ByteArray) (sa_6814 : Int) (sb_6815 : ByteArray) : Option R :=
  bif ((decide ((0 : Int) ≤ sa_6814)) && (decide (sa_6814 < (lenI h_6813)))) then
    optb (h_6813[sa_6814.toNat]?) fun x_6817 =>
    bif ((decide ((0 : Int) ≤ sa_6814)) && (decide (sa_6814 < (lenI (List.set h_6813 sa_6814.toNat sb_6815))))) then
      optb ((List.set h_6813 sa_6814.toNat sb_6815)[sa_6814.toNat]?) fun x_6818 =>
      let z_6819 := (wrap64 ((wrap64 (sa_6814 + (1 : Int))) * (64 : Int)))
      bif (((decide ((0 : Int) ≤ (wrap64 (sa_6814 * (64 : Int))))) && (decide ((wrap64 (sa_6814 * (64 : Int))) ≤ z_6819))) && (decide (z_6819 ≤ (sizeI h_6811)))) then
        bif (!(decide (x_6818 = (h_6811.extract (wrap64 (sa_6814 * (64 : Int))).toNat z_6819.toNat)))) then
          e0 (wrap64 (wrong_6799 + (1 : Int))) (List.set h_6813 sa_6814.toNat sb_6815)
        else e0 wrong_6799 (List.set h_6813 sa_6814.toNat sb_6815)
      else none
    else none
  else none
def corbellaw23_speaks_i12_6_j5 {R : Type} (e0 : Int → Option R) (k : Nat) (n_6837 : Int) : Option R :=
  e0 (wrap64 (n_6837 + (1 : Int)))
def corbellaw23_speaks_i12_6_l3s {R : Type} (rc : Int → Int → List ByteArray → Option R) (e0 : Int → Bool → List ByteArray → Option R) (e1 : Int → Bool → List ByteArray → Option R) (k : Nat) (j_6790 : List (Int × ByteArray)) (h_6791 : ByteArray) (wrong_6779 : Int) (n_6780 : Int) (h_6793 : List ByteArray) : Option R :=
  bif (decide (wrong_6779 = (0 : Int))) then
    e0 n_6780 true h_6793
  else bif (decide (n_6780 = (lenI j_6790))) then
    e1 (0 : Int) false h_6793
  else bif ((decide ((0 : Int) ≤ n_6780)) && (decide (n_6780 < (lenI j_6790)))) then
    optb (j_6790[n_6780.toNat]?) fun x_6795 =>
    bif ((decide ((0 : Int) ≤ x_6795.1)) && (decide (x_6795.1 < (lenI h_6793)))) then
      optb (h_6793[x_6795.1.toNat]?) fun x_6796 =>
      let z_6797 := (wrap64 ((wrap64 (x_6795.1 + (1 : Int))) * (64 : Int)))
      bif (((decide ((0 : Int) ≤ (wrap64 (x_6795.1 * (64 : Int))))) && (decide ((wrap64 (x_6795.1 * (64 : Int))) ≤ z_6797))) && (decide (z_6797 ≤ (sizeI h_6791)))) then
        bif (!(decide (x_6796 = (h_6791.extract (wrap64 (x_6795.1 * (64 : Int))).toNat z_6797.toNat)))) then
          corbellaw23_speaks_i12_6_j4 (fun wrong_6821 h_6835 =>
            corbellaw23_speaks_i12_6_j5 (fun n_6852 =>
              rc wrong_6821 n_6852 h_6835) k n_6780) k (wrap64 (wrong_6779 - (1 : Int))) h_6791 h_6793 x_6795.1 x_6795.2
        else corbellaw23_speaks_i12_6_j4 (fun wrong_6866 h_6880 =>
          corbellaw23_speaks_i12_6_j5 (fun n_6882 =>
            rc wrong_6866 n_6882 h_6880) k n_6780) k wrong_6779 h_6791 h_6793 x_6795.1 x_6795.2
      else none
    else none
  else none
def corbellaw23_speaks_i12_6_l3 {R : Type} (e0 : Int → Bool → List ByteArray → Option R) (e1 : Int → Bool → List ByteArray → Option R) (k : Nat) (j_6790 : List (Int × ByteArray)) (h_6791 : ByteArray) : Nat → Int → Int → List ByteArray → Option R
  | 0 => fun _ _ _ => none
  | j + 1 => corbellaw23_speaks_i12_6_l3s (corbellaw23_speaks_i12_6_l3 e0 e1 k j_6790 h_6791 j) e0 e1 k j_6790 h_6791
def corbellaw23_speaks_i12_6_j0 {R : Type} (e0 : Int → Bool → List ByteArray → Option R) (e1 : Int → Bool → List ByteArray → Option R) (k : Nat) (j_6694 : List (Int × ByteArray)) (all_6695 : ByteArray) (h_6697 : List ByteArray) : Option R :=
  corbellaw23_speaks_i12_6_l1 (fun wrong_6765 =>
    corbellaw23_speaks_i12_6_l3 (fun v_6896 v_6897 h_6910 =>
      e0 v_6896 v_6897 h_6910) (fun v_6911 v_6912 h_6925 =>
      e1 v_6911 v_6912 h_6925) k j_6694 all_6695 k wrong_6765 (0 : Int) h_6697) k (lenI h_6697) all_6695 h_6697 k (0 : Int) (0 : Int)
def corbellaw23_speaks_j0 {R : Type} (e0 : Bool → Option R) (k : Nat) (n_6941 : Int) (ok_6942 : Bool) (j_6957 : List (Int × ByteArray)) : Option R :=
  bif (decide (n_6941 = (1 : Int))) then
    bif ok_6942 then
      e0 (decide ((lenI j_6957) = (0 : Int)))
    else e0 false
  else e0 false
def corbellaw23_speaks_j0b {R : Type} (e0 : Bool → Option R) (k : Nat) (n_6974 : Int) (ok_6975 : Bool) (j_6985 : List (Int × ByteArray)) : Option R :=
  bif (decide (n_6974 = (1 : Int))) then
    bif ok_6975 then
      e0 (decide ((lenI j_6985) = (0 : Int)))
    else e0 false
  else e0 false
def corbellaw23_speaks_k0 (k : Nat) : Bool → Option Bool := fun v_6958 =>
  some v_6958
def corbellaw23_speaks_k1 (k : Nat) : Bool → Option Bool := fun v_6989 =>
  some v_6989
def corbellaw23_speaks (k : Nat)  : Option Bool :=
  optb (xor_Zero k (64 : Int)) fun r_6489 =>
  optb (slices_Repeat k false ([r_6489] : List ByteArray) (1 : Int)) fun r_6490 =>
  let z_6491 := (List.replicate (63 : Int).toNat (Ty.zero (.int .u8)))
  bif (decide ((bytesOf z_6491).size + (⟨#[97]⟩ : ByteArray).size ≤ 4611686018427387904)) then
    let z_6492 := (List.replicate (63 : Int).toNat (Ty.zero (.int .u8)))
    bif (decide ((bytesOf z_6492).size + (⟨#[98]⟩ : ByteArray).size ≤ 4611686018427387904)) then
      bif (!(decide ((Int.tmod (sizeI ((bytesOf z_6491) ++ (⟨#[97]⟩ : ByteArray))) (64 : Int)) = (0 : Int)))) then
        none
      else let z_6502 := (sizeI ((bytesOf z_6491) ++ (⟨#[97]⟩ : ByteArray)))
      bif (decide ((wrap64 (Int.tdiv z_6502 (64 : Int))) < (1 : Int))) then
        corbellaw23_speaks_i33_5_j0 (corbellaw23_speaks_i10_5_l0 (fun h_6551 =>
            bif (!(decide ((Int.tmod (sizeI ((bytesOf z_6492) ++ (⟨#[98]⟩ : ByteArray))) (64 : Int)) = (0 : Int)))) then
              none
            else let z_6561 := (sizeI ((bytesOf z_6492) ++ (⟨#[98]⟩ : ByteArray)))
            bif (decide ((wrap64 (Int.tdiv z_6561 (64 : Int))) < (1 : Int))) then
              corbellaw23_speaks_i33_6_j0 (corbellaw23_speaks_i10_6_l0 (fun h_6614 =>
                  bif (!(decide ((Int.tmod (sizeI ((bytesOf z_6491) ++ (⟨#[97]⟩ : ByteArray))) (64 : Int)) = (0 : Int)))) then
                    none
                  else let z_6624 := (sizeI ((bytesOf z_6491) ++ (⟨#[97]⟩ : ByteArray)))
                  bif (decide ((wrap64 (Int.tdiv z_6624 (64 : Int))) < (1 : Int))) then
                    corbellaw23_speaks_i33_6_j0b (corbellaw23_speaks_i10_6_l0b (fun h_6677 =>
                        bif (!(decide ((sizeI ((bytesOf z_6491) ++ (⟨#[97]⟩ : ByteArray))) = (wrap64 ((lenI r_6490.2) * (64 : Int)))))) then
                          none
                        else optb (slices_Clone k r_6490.1 r_6490.2) fun r_6684 =>
                        corbellaw23_speaks_i12_6_j0 (fun v_6926 v_6927 h_6940 =>
                          corbellaw23_speaks_j0 (corbellaw23_speaks_k0 k) k v_6926 v_6927 ([] : List (Int × ByteArray))) (fun v_6959 v_6960 h_6973 =>
                          corbellaw23_speaks_j0b (corbellaw23_speaks_k1 k) k v_6959 v_6960 h_6677) k h_6677 ((bytesOf z_6491) ++ (⟨#[97]⟩ : ByteArray)) r_6684.2) k k (0 : Int) ((bytesOf z_6491) ++ (⟨#[97]⟩ : ByteArray)) h_6614) k true
                  else bif (decide ((lenI r_6490.2) < (0 : Int))) then
                    corbellaw23_speaks_i33_6_j0b (corbellaw23_speaks_i10_6_l0b (fun h_7009 =>
                        bif (!(decide ((sizeI ((bytesOf z_6491) ++ (⟨#[97]⟩ : ByteArray))) = (wrap64 ((lenI r_6490.2) * (64 : Int)))))) then
                          none
                        else optb (slices_Clone k r_6490.1 r_6490.2) fun r_7016 =>
                        corbellaw23_speaks_i12_6_j0 (fun v_7017 v_7018 h_7031 =>
                          corbellaw23_speaks_j0 (corbellaw23_speaks_k0 k) k v_7017 v_7018 ([] : List (Int × ByteArray))) (fun v_7032 v_7033 h_7046 =>
                          corbellaw23_speaks_j0b (corbellaw23_speaks_k1 k) k v_7032 v_7033 h_7009) k h_7009 ((bytesOf z_6491) ++ (⟨#[97]⟩ : ByteArray)) r_7016.2) k k (0 : Int) ((bytesOf z_6491) ++ (⟨#[97]⟩ : ByteArray)) h_6614) k true
                  else corbellaw23_speaks_i33_6_j0b (corbellaw23_speaks_i10_6_l0b (fun h_7067 =>
                      bif (!(decide ((sizeI ((bytesOf z_6491) ++ (⟨#[97]⟩ : ByteArray))) = (wrap64 ((lenI r_6490.2) * (64 : Int)))))) then
                        none
                      else optb (slices_Clone k r_6490.1 r_6490.2) fun r_7074 =>
                      corbellaw23_speaks_i12_6_j0 (fun v_7075 v_7076 h_7089 =>
                        corbellaw23_speaks_j0 (corbellaw23_speaks_k0 k) k v_7075 v_7076 ([] : List (Int × ByteArray))) (fun v_7090 v_7091 h_7104 =>
                        corbellaw23_speaks_j0b (corbellaw23_speaks_k1 k) k v_7090 v_7091 h_7067) k h_7067 ((bytesOf z_6491) ++ (⟨#[97]⟩ : ByteArray)) r_7074.2) k k (0 : Int) ((bytesOf z_6491) ++ (⟨#[97]⟩ : ByteArray)) h_6614) k (decide ((wrap64 ((lenI r_6490.2) - (0 : Int))) < (wrap64 (Int.tdiv z_6624 (64 : Int)))))) k k (0 : Int) ((bytesOf z_6492) ++ (⟨#[98]⟩ : ByteArray)) h_6551) k true
            else bif (decide ((lenI r_6490.2) < (0 : Int))) then
              corbellaw23_speaks_i33_6_j0 (corbellaw23_speaks_i10_6_l0 (fun h_7124 =>
                  bif (!(decide ((Int.tmod (sizeI ((bytesOf z_6491) ++ (⟨#[97]⟩ : ByteArray))) (64 : Int)) = (0 : Int)))) then
                    none
                  else let z_7134 := (sizeI ((bytesOf z_6491) ++ (⟨#[97]⟩ : ByteArray)))
                  bif (decide ((wrap64 (Int.tdiv z_7134 (64 : Int))) < (1 : Int))) then
                    corbellaw23_speaks_i33_6_j0b (corbellaw23_speaks_i10_6_l0b (fun h_7157 =>
                        bif (!(decide ((sizeI ((bytesOf z_6491) ++ (⟨#[97]⟩ : ByteArray))) = (wrap64 ((lenI r_6490.2) * (64 : Int)))))) then
                          none
                        else optb (slices_Clone k r_6490.1 r_6490.2) fun r_7164 =>
                        corbellaw23_speaks_i12_6_j0 (fun v_7165 v_7166 h_7179 =>
                          corbellaw23_speaks_j0 (corbellaw23_speaks_k0 k) k v_7165 v_7166 ([] : List (Int × ByteArray))) (fun v_7180 v_7181 h_7194 =>
                          corbellaw23_speaks_j0b (corbellaw23_speaks_k1 k) k v_7180 v_7181 h_7157) k h_7157 ((bytesOf z_6491) ++ (⟨#[97]⟩ : ByteArray)) r_7164.2) k k (0 : Int) ((bytesOf z_6491) ++ (⟨#[97]⟩ : ByteArray)) h_7124) k true
                  else bif (decide ((lenI r_6490.2) < (0 : Int))) then
                    corbellaw23_speaks_i33_6_j0b (corbellaw23_speaks_i10_6_l0b (fun h_7214 =>
                        bif (!(decide ((sizeI ((bytesOf z_6491) ++ (⟨#[97]⟩ : ByteArray))) = (wrap64 ((lenI r_6490.2) * (64 : Int)))))) then
                          none
                        else optb (slices_Clone k r_6490.1 r_6490.2) fun r_7221 =>
                        corbellaw23_speaks_i12_6_j0 (fun v_7222 v_7223 h_7236 =>
                          corbellaw23_speaks_j0 (corbellaw23_speaks_k0 k) k v_7222 v_7223 ([] : List (Int × ByteArray))) (fun v_7237 v_7238 h_7251 =>
                          corbellaw23_speaks_j0b (corbellaw23_speaks_k1 k) k v_7237 v_7238 h_7214) k h_7214 ((bytesOf z_6491) ++ (⟨#[97]⟩ : ByteArray)) r_7221.2) k k (0 : Int) ((bytesOf z_6491) ++ (⟨#[97]⟩ : ByteArray)) h_7124) k true
                  else corbellaw23_speaks_i33_6_j0b (corbellaw23_speaks_i10_6_l0b (fun h_7272 =>
                      bif (!(decide ((sizeI ((bytesOf z_6491) ++ (⟨#[97]⟩ : ByteArray))) = (wrap64 ((lenI r_6490.2) * (64 : Int)))))) then
                        none
                      else optb (slices_Clone k r_6490.1 r_6490.2) fun r_7279 =>
                      corbellaw23_speaks_i12_6_j0 (fun v_7280 v_7281 h_7294 =>
                        corbellaw23_speaks_j0 (corbellaw23_speaks_k0 k) k v_7280 v_7281 ([] : List (Int × ByteArray))) (fun v_7295 v_7296 h_7309 =>
                        corbellaw23_speaks_j0b (corbellaw23_speaks_k1 k) k v_7295 v_7296 h_7272) k h_7272 ((bytesOf z_6491) ++ (⟨#[97]⟩ : ByteArray)) r_7279.2) k k (0 : Int) ((bytesOf z_6491) ++ (⟨#[97]⟩ : ByteArray)) h_7124) k (decide ((wrap64 ((lenI r_6490.2) - (0 : Int))) < (wrap64 (Int.tdiv z_7134 (64 : Int)))))) k k (0 : Int) ((bytesOf z_6492) ++ (⟨#[98]⟩ : ByteArray)) h_6551) k true
            else corbellaw23_speaks_i33_6_j0 (corbellaw23_speaks_i10_6_l0 (fun h_7330 =>
                bif (!(decide ((Int.tmod (sizeI ((bytesOf z_6491) ++ (⟨#[97]⟩ : ByteArray))) (64 : Int)) = (0 : Int)))) then
                  none
                else let z_7340 := (sizeI ((bytesOf z_6491) ++ (⟨#[97]⟩ : ByteArray)))
                bif (decide ((wrap64 (Int.tdiv z_7340 (64 : Int))) < (1 : Int))) then
                  corbellaw23_speaks_i33_6_j0b (corbellaw23_speaks_i10_6_l0b (fun h_7363 =>
                      bif (!(decide ((sizeI ((bytesOf z_6491) ++ (⟨#[97]⟩ : ByteArray))) = (wrap64 ((lenI r_6490.2) * (64 : Int)))))) then
                        none
                      else optb (slices_Clone k r_6490.1 r_6490.2) fun r_7370 =>
                      corbellaw23_speaks_i12_6_j0 (fun v_7371 v_7372 h_7385 =>
                        corbellaw23_speaks_j0 (corbellaw23_speaks_k0 k) k v_7371 v_7372 ([] : List (Int × ByteArray))) (fun v_7386 v_7387 h_7400 =>
                        corbellaw23_speaks_j0b (corbellaw23_speaks_k1 k) k v_7386 v_7387 h_7363) k h_7363 ((bytesOf z_6491) ++ (⟨#[97]⟩ : ByteArray)) r_7370.2) k k (0 : Int) ((bytesOf z_6491) ++ (⟨#[97]⟩ : ByteArray)) h_7330) k true
                else bif (decide ((lenI r_6490.2) < (0 : Int))) then
                  corbellaw23_speaks_i33_6_j0b (corbellaw23_speaks_i10_6_l0b (fun h_7420 =>
                      bif (!(decide ((sizeI ((bytesOf z_6491) ++ (⟨#[97]⟩ : ByteArray))) = (wrap64 ((lenI r_6490.2) * (64 : Int)))))) then
                        none
                      else optb (slices_Clone k r_6490.1 r_6490.2) fun r_7427 =>
                      corbellaw23_speaks_i12_6_j0 (fun v_7428 v_7429 h_7442 =>
                        corbellaw23_speaks_j0 (corbellaw23_speaks_k0 k) k v_7428 v_7429 ([] : List (Int × ByteArray))) (fun v_7443 v_7444 h_7457 =>
                        corbellaw23_speaks_j0b (corbellaw23_speaks_k1 k) k v_7443 v_7444 h_7420) k h_7420 ((bytesOf z_6491) ++ (⟨#[97]⟩ : ByteArray)) r_7427.2) k k (0 : Int) ((bytesOf z_6491) ++ (⟨#[97]⟩ : ByteArray)) h_7330) k true
                else corbellaw23_speaks_i33_6_j0b (corbellaw23_speaks_i10_6_l0b (fun h_7478 =>
                    bif (!(decide ((sizeI ((bytesOf z_6491) ++ (⟨#[97]⟩ : ByteArray))) = (wrap64 ((lenI r_6490.2) * (64 : Int)))))) then
                      none
                    else optb (slices_Clone k r_6490.1 r_6490.2) fun r_7485 =>
                    corbellaw23_speaks_i12_6_j0 (fun v_7486 v_7487 h_7500 =>
                      corbellaw23_speaks_j0 (corbellaw23_speaks_k0 k) k v_7486 v_7487 ([] : List (Int × ByteArray))) (fun v_7501 v_7502 h_7515 =>
                      corbellaw23_speaks_j0b (corbellaw23_speaks_k1 k) k v_7501 v_7502 h_7478) k h_7478 ((bytesOf z_6491) ++ (⟨#[97]⟩ : ByteArray)) r_7485.2) k k (0 : Int) ((bytesOf z_6491) ++ (⟨#[97]⟩ : ByteArray)) h_7330) k (decide ((wrap64 ((lenI r_6490.2) - (0 : Int))) < (wrap64 (Int.tdiv z_7340 (64 : Int)))))) k k (0 : Int) ((bytesOf z_6492) ++ (⟨#[98]⟩ : ByteArray)) h_6551) k (decide ((wrap64 ((lenI r_6490.2) - (0 : Int))) < (wrap64 (Int.tdiv z_6561 (64 : Int)))))) k k (0 : Int) ((bytesOf z_6491) ++ (⟨#[97]⟩ : ByteArray)) ([] : List (Int × ByteArray))) k true
      else bif (decide ((lenI r_6490.2) < (0 : Int))) then
        corbellaw23_speaks_i33_5_j0 (corbellaw23_speaks_i10_5_l0 (fun h_7533 =>
            bif (!(decide ((Int.tmod (sizeI ((bytesOf z_6492) ++ (⟨#[98]⟩ : ByteArray))) (64 : Int)) = (0 : Int)))) then
              none
            else let z_7543 := (sizeI ((bytesOf z_6492) ++ (⟨#[98]⟩ : ByteArray)))
            bif (decide ((wrap64 (Int.tdiv z_7543 (64 : Int))) < (1 : Int))) then
              corbellaw23_speaks_i33_6_j0 (corbellaw23_speaks_i10_6_l0 (fun h_7566 =>
                  bif (!(decide ((Int.tmod (sizeI ((bytesOf z_6491) ++ (⟨#[97]⟩ : ByteArray))) (64 : Int)) = (0 : Int)))) then
                    none
                  else let z_7576 := (sizeI ((bytesOf z_6491) ++ (⟨#[97]⟩ : ByteArray)))
                  bif (decide ((wrap64 (Int.tdiv z_7576 (64 : Int))) < (1 : Int))) then
                    corbellaw23_speaks_i33_6_j0b (corbellaw23_speaks_i10_6_l0b (fun h_7599 =>
                        bif (!(decide ((sizeI ((bytesOf z_6491) ++ (⟨#[97]⟩ : ByteArray))) = (wrap64 ((lenI r_6490.2) * (64 : Int)))))) then
                          none
                        else optb (slices_Clone k r_6490.1 r_6490.2) fun r_7606 =>
                        corbellaw23_speaks_i12_6_j0 (fun v_7607 v_7608 h_7621 =>
                          corbellaw23_speaks_j0 (corbellaw23_speaks_k0 k) k v_7607 v_7608 ([] : List (Int × ByteArray))) (fun v_7622 v_7623 h_7636 =>
                          corbellaw23_speaks_j0b (corbellaw23_speaks_k1 k) k v_7622 v_7623 h_7599) k h_7599 ((bytesOf z_6491) ++ (⟨#[97]⟩ : ByteArray)) r_7606.2) k k (0 : Int) ((bytesOf z_6491) ++ (⟨#[97]⟩ : ByteArray)) h_7566) k true
                  else bif (decide ((lenI r_6490.2) < (0 : Int))) then
                    corbellaw23_speaks_i33_6_j0b (corbellaw23_speaks_i10_6_l0b (fun h_7656 =>
                        bif (!(decide ((sizeI ((bytesOf z_6491) ++ (⟨#[97]⟩ : ByteArray))) = (wrap64 ((lenI r_6490.2) * (64 : Int)))))) then
                          none
                        else optb (slices_Clone k r_6490.1 r_6490.2) fun r_7663 =>
                        corbellaw23_speaks_i12_6_j0 (fun v_7664 v_7665 h_7678 =>
                          corbellaw23_speaks_j0 (corbellaw23_speaks_k0 k) k v_7664 v_7665 ([] : List (Int × ByteArray))) (fun v_7679 v_7680 h_7693 =>
                          corbellaw23_speaks_j0b (corbellaw23_speaks_k1 k) k v_7679 v_7680 h_7656) k h_7656 ((bytesOf z_6491) ++ (⟨#[97]⟩ : ByteArray)) r_7663.2) k k (0 : Int) ((bytesOf z_6491) ++ (⟨#[97]⟩ : ByteArray)) h_7566) k true
                  else corbellaw23_speaks_i33_6_j0b (corbellaw23_speaks_i10_6_l0b (fun h_7714 =>
                      bif (!(decide ((sizeI ((bytesOf z_6491) ++ (⟨#[97]⟩ : ByteArray))) = (wrap64 ((lenI r_6490.2) * (64 : Int)))))) then
                        none
                      else optb (slices_Clone k r_6490.1 r_6490.2) fun r_7721 =>
                      corbellaw23_speaks_i12_6_j0 (fun v_7722 v_7723 h_7736 =>
                        corbellaw23_speaks_j0 (corbellaw23_speaks_k0 k) k v_7722 v_7723 ([] : List (Int × ByteArray))) (fun v_7737 v_7738 h_7751 =>
                        corbellaw23_speaks_j0b (corbellaw23_speaks_k1 k) k v_7737 v_7738 h_7714) k h_7714 ((bytesOf z_6491) ++ (⟨#[97]⟩ : ByteArray)) r_7721.2) k k (0 : Int) ((bytesOf z_6491) ++ (⟨#[97]⟩ : ByteArray)) h_7566) k (decide ((wrap64 ((lenI r_6490.2) - (0 : Int))) < (wrap64 (Int.tdiv z_7576 (64 : Int)))))) k k (0 : Int) ((bytesOf z_6492) ++ (⟨#[98]⟩ : ByteArray)) h_7533) k true
            else bif (decide ((lenI r_6490.2) < (0 : Int))) then
              corbellaw23_speaks_i33_6_j0 (corbellaw23_speaks_i10_6_l0 (fun h_7771 =>
                  bif (!(decide ((Int.tmod (sizeI ((bytesOf z_6491) ++ (⟨#[97]⟩ : ByteArray))) (64 : Int)) = (0 : Int)))) then
                    none
                  else let z_7781 := (sizeI ((bytesOf z_6491) ++ (⟨#[97]⟩ : ByteArray)))
                  bif (decide ((wrap64 (Int.tdiv z_7781 (64 : Int))) < (1 : Int))) then
                    corbellaw23_speaks_i33_6_j0b (corbellaw23_speaks_i10_6_l0b (fun h_7804 =>
                        bif (!(decide ((sizeI ((bytesOf z_6491) ++ (⟨#[97]⟩ : ByteArray))) = (wrap64 ((lenI r_6490.2) * (64 : Int)))))) then
                          none
                        else optb (slices_Clone k r_6490.1 r_6490.2) fun r_7811 =>
                        corbellaw23_speaks_i12_6_j0 (fun v_7812 v_7813 h_7826 =>
                          corbellaw23_speaks_j0 (corbellaw23_speaks_k0 k) k v_7812 v_7813 ([] : List (Int × ByteArray))) (fun v_7827 v_7828 h_7841 =>
                          corbellaw23_speaks_j0b (corbellaw23_speaks_k1 k) k v_7827 v_7828 h_7804) k h_7804 ((bytesOf z_6491) ++ (⟨#[97]⟩ : ByteArray)) r_7811.2) k k (0 : Int) ((bytesOf z_6491) ++ (⟨#[97]⟩ : ByteArray)) h_7771) k true
                  else bif (decide ((lenI r_6490.2) < (0 : Int))) then
                    corbellaw23_speaks_i33_6_j0b (corbellaw23_speaks_i10_6_l0b (fun h_7861 =>
                        bif (!(decide ((sizeI ((bytesOf z_6491) ++ (⟨#[97]⟩ : ByteArray))) = (wrap64 ((lenI r_6490.2) * (64 : Int)))))) then
                          none
                        else optb (slices_Clone k r_6490.1 r_6490.2) fun r_7868 =>
                        corbellaw23_speaks_i12_6_j0 (fun v_7869 v_7870 h_7883 =>
                          corbellaw23_speaks_j0 (corbellaw23_speaks_k0 k) k v_7869 v_7870 ([] : List (Int × ByteArray))) (fun v_7884 v_7885 h_7898 =>
                          corbellaw23_speaks_j0b (corbellaw23_speaks_k1 k) k v_7884 v_7885 h_7861) k h_7861 ((bytesOf z_6491) ++ (⟨#[97]⟩ : ByteArray)) r_7868.2) k k (0 : Int) ((bytesOf z_6491) ++ (⟨#[97]⟩ : ByteArray)) h_7771) k true
                  else corbellaw23_speaks_i33_6_j0b (corbellaw23_speaks_i10_6_l0b (fun h_7919 =>
                      bif (!(decide ((sizeI ((bytesOf z_6491) ++ (⟨#[97]⟩ : ByteArray))) = (wrap64 ((lenI r_6490.2) * (64 : Int)))))) then
                        none
                      else optb (slices_Clone k r_6490.1 r_6490.2) fun r_7926 =>
                      corbellaw23_speaks_i12_6_j0 (fun v_7927 v_7928 h_7941 =>
                        corbellaw23_speaks_j0 (corbellaw23_speaks_k0 k) k v_7927 v_7928 ([] : List (Int × ByteArray))) (fun v_7942 v_7943 h_7956 =>
                        corbellaw23_speaks_j0b (corbellaw23_speaks_k1 k) k v_7942 v_7943 h_7919) k h_7919 ((bytesOf z_6491) ++ (⟨#[97]⟩ : ByteArray)) r_7926.2) k k (0 : Int) ((bytesOf z_6491) ++ (⟨#[97]⟩ : ByteArray)) h_7771) k (decide ((wrap64 ((lenI r_6490.2) - (0 : Int))) < (wrap64 (Int.tdiv z_7781 (64 : Int)))))) k k (0 : Int) ((bytesOf z_6492) ++ (⟨#[98]⟩ : ByteArray)) h_7533) k true
            else corbellaw23_speaks_i33_6_j0 (corbellaw23_speaks_i10_6_l0 (fun h_7977 =>
                bif (!(decide ((Int.tmod (sizeI ((bytesOf z_6491) ++ (⟨#[97]⟩ : ByteArray))) (64 : Int)) = (0 : Int)))) then
                  none
                else let z_7987 := (sizeI ((bytesOf z_6491) ++ (⟨#[97]⟩ : ByteArray)))
                bif (decide ((wrap64 (Int.tdiv z_7987 (64 : Int))) < (1 : Int))) then
                  corbellaw23_speaks_i33_6_j0b (corbellaw23_speaks_i10_6_l0b (fun h_8010 =>
                      bif (!(decide ((sizeI ((bytesOf z_6491) ++ (⟨#[97]⟩ : ByteArray))) = (wrap64 ((lenI r_6490.2) * (64 : Int)))))) then
                        none
                      else optb (slices_Clone k r_6490.1 r_6490.2) fun r_8017 =>
                      corbellaw23_speaks_i12_6_j0 (fun v_8018 v_8019 h_8032 =>
                        corbellaw23_speaks_j0 (corbellaw23_speaks_k0 k) k v_8018 v_8019 ([] : List (Int × ByteArray))) (fun v_8033 v_8034 h_8047 =>
                        corbellaw23_speaks_j0b (corbellaw23_speaks_k1 k) k v_8033 v_8034 h_8010) k h_8010 ((bytesOf z_6491) ++ (⟨#[97]⟩ : ByteArray)) r_8017.2) k k (0 : Int) ((bytesOf z_6491) ++ (⟨#[97]⟩ : ByteArray)) h_7977) k true
                else bif (decide ((lenI r_6490.2) < (0 : Int))) then
                  corbellaw23_speaks_i33_6_j0b (corbellaw23_speaks_i10_6_l0b (fun h_8067 =>
                      bif (!(decide ((sizeI ((bytesOf z_6491) ++ (⟨#[97]⟩ : ByteArray))) = (wrap64 ((lenI r_6490.2) * (64 : Int)))))) then
                        none
                      else optb (slices_Clone k r_6490.1 r_6490.2) fun r_8074 =>
                      corbellaw23_speaks_i12_6_j0 (fun v_8075 v_8076 h_8089 =>
                        corbellaw23_speaks_j0 (corbellaw23_speaks_k0 k) k v_8075 v_8076 ([] : List (Int × ByteArray))) (fun v_8090 v_8091 h_8104 =>
                        corbellaw23_speaks_j0b (corbellaw23_speaks_k1 k) k v_8090 v_8091 h_8067) k h_8067 ((bytesOf z_6491) ++ (⟨#[97]⟩ : ByteArray)) r_8074.2) k k (0 : Int) ((bytesOf z_6491) ++ (⟨#[97]⟩ : ByteArray)) h_7977) k true
                else corbellaw23_speaks_i33_6_j0b (corbellaw23_speaks_i10_6_l0b (fun h_8125 =>
                    bif (!(decide ((sizeI ((bytesOf z_6491) ++ (⟨#[97]⟩ : ByteArray))) = (wrap64 ((lenI r_6490.2) * (64 : Int)))))) then
                      none
                    else optb (slices_Clone k r_6490.1 r_6490.2) fun r_8132 =>
                    corbellaw23_speaks_i12_6_j0 (fun v_8133 v_8134 h_8147 =>
                      corbellaw23_speaks_j0 (corbellaw23_speaks_k0 k) k v_8133 v_8134 ([] : List (Int × ByteArray))) (fun v_8148 v_8149 h_8162 =>
                      corbellaw23_speaks_j0b (corbellaw23_speaks_k1 k) k v_8148 v_8149 h_8125) k h_8125 ((bytesOf z_6491) ++ (⟨#[97]⟩ : ByteArray)) r_8132.2) k k (0 : Int) ((bytesOf z_6491) ++ (⟨#[97]⟩ : ByteArray)) h_7977) k (decide ((wrap64 ((lenI r_6490.2) - (0 : Int))) < (wrap64 (Int.tdiv z_7987 (64 : Int)))))) k k (0 : Int) ((bytesOf z_6492) ++ (⟨#[98]⟩ : ByteArray)) h_7533) k (decide ((wrap64 ((lenI r_6490.2) - (0 : Int))) < (wrap64 (Int.tdiv z_7543 (64 : Int)))))) k k (0 : Int) ((bytesOf z_6491) ++ (⟨#[97]⟩ : ByteArray)) ([] : List (Int × ByteArray))) k true
      else corbellaw23_speaks_i33_5_j0 (corbellaw23_speaks_i10_5_l0 (fun h_8181 =>
          bif (!(decide ((Int.tmod (sizeI ((bytesOf z_6492) ++ (⟨#[98]⟩ : ByteArray))) (64 : Int)) = (0 : Int)))) then
            none
          else let z_8191 := (sizeI ((bytesOf z_6492) ++ (⟨#[98]⟩ : ByteArray)))
          bif (decide ((wrap64 (Int.tdiv z_8191 (64 : Int))) < (1 : Int))) then
            corbellaw23_speaks_i33_6_j0 (corbellaw23_speaks_i10_6_l0 (fun h_8214 =>
                bif (!(decide ((Int.tmod (sizeI ((bytesOf z_6491) ++ (⟨#[97]⟩ : ByteArray))) (64 : Int)) = (0 : Int)))) then
                  none
                else let z_8224 := (sizeI ((bytesOf z_6491) ++ (⟨#[97]⟩ : ByteArray)))
                bif (decide ((wrap64 (Int.tdiv z_8224 (64 : Int))) < (1 : Int))) then
                  corbellaw23_speaks_i33_6_j0b (corbellaw23_speaks_i10_6_l0b (fun h_8247 =>
                      bif (!(decide ((sizeI ((bytesOf z_6491) ++ (⟨#[97]⟩ : ByteArray))) = (wrap64 ((lenI r_6490.2) * (64 : Int)))))) then
                        none
                      else optb (slices_Clone k r_6490.1 r_6490.2) fun r_8254 =>
                      corbellaw23_speaks_i12_6_j0 (fun v_8255 v_8256 h_8269 =>
                        corbellaw23_speaks_j0 (corbellaw23_speaks_k0 k) k v_8255 v_8256 ([] : List (Int × ByteArray))) (fun v_8270 v_8271 h_8284 =>
                        corbellaw23_speaks_j0b (corbellaw23_speaks_k1 k) k v_8270 v_8271 h_8247) k h_8247 ((bytesOf z_6491) ++ (⟨#[97]⟩ : ByteArray)) r_8254.2) k k (0 : Int) ((bytesOf z_6491) ++ (⟨#[97]⟩ : ByteArray)) h_8214) k true
                else bif (decide ((lenI r_6490.2) < (0 : Int))) then
                  corbellaw23_speaks_i33_6_j0b (corbellaw23_speaks_i10_6_l0b (fun h_8304 =>
                      bif (!(decide ((sizeI ((bytesOf z_6491) ++ (⟨#[97]⟩ : ByteArray))) = (wrap64 ((lenI r_6490.2) * (64 : Int)))))) then
                        none
                      else optb (slices_Clone k r_6490.1 r_6490.2) fun r_8311 =>
                      corbellaw23_speaks_i12_6_j0 (fun v_8312 v_8313 h_8326 =>
                        corbellaw23_speaks_j0 (corbellaw23_speaks_k0 k) k v_8312 v_8313 ([] : List (Int × ByteArray))) (fun v_8327 v_8328 h_8341 =>
                        corbellaw23_speaks_j0b (corbellaw23_speaks_k1 k) k v_8327 v_8328 h_8304) k h_8304 ((bytesOf z_6491) ++ (⟨#[97]⟩ : ByteArray)) r_8311.2) k k (0 : Int) ((bytesOf z_6491) ++ (⟨#[97]⟩ : ByteArray)) h_8214) k true
                else corbellaw23_speaks_i33_6_j0b (corbellaw23_speaks_i10_6_l0b (fun h_8362 =>
                    bif (!(decide ((sizeI ((bytesOf z_6491) ++ (⟨#[97]⟩ : ByteArray))) = (wrap64 ((lenI r_6490.2) * (64 : Int)))))) then
                      none
                    else optb (slices_Clone k r_6490.1 r_6490.2) fun r_8369 =>
                    corbellaw23_speaks_i12_6_j0 (fun v_8370 v_8371 h_8384 =>
                      corbellaw23_speaks_j0 (corbellaw23_speaks_k0 k) k v_8370 v_8371 ([] : List (Int × ByteArray))) (fun v_8385 v_8386 h_8399 =>
                      corbellaw23_speaks_j0b (corbellaw23_speaks_k1 k) k v_8385 v_8386 h_8362) k h_8362 ((bytesOf z_6491) ++ (⟨#[97]⟩ : ByteArray)) r_8369.2) k k (0 : Int) ((bytesOf z_6491) ++ (⟨#[97]⟩ : ByteArray)) h_8214) k (decide ((wrap64 ((lenI r_6490.2) - (0 : Int))) < (wrap64 (Int.tdiv z_8224 (64 : Int)))))) k k (0 : Int) ((bytesOf z_6492) ++ (⟨#[98]⟩ : ByteArray)) h_8181) k true
          else bif (decide ((lenI r_6490.2) < (0 : Int))) then
            corbellaw23_speaks_i33_6_j0 (corbellaw23_speaks_i10_6_l0 (fun h_8419 =>
                bif (!(decide ((Int.tmod (sizeI ((bytesOf z_6491) ++ (⟨#[97]⟩ : ByteArray))) (64 : Int)) = (0 : Int)))) then
                  none
                else let z_8429 := (sizeI ((bytesOf z_6491) ++ (⟨#[97]⟩ : ByteArray)))
                bif (decide ((wrap64 (Int.tdiv z_8429 (64 : Int))) < (1 : Int))) then
                  corbellaw23_speaks_i33_6_j0b (corbellaw23_speaks_i10_6_l0b (fun h_8452 =>
                      bif (!(decide ((sizeI ((bytesOf z_6491) ++ (⟨#[97]⟩ : ByteArray))) = (wrap64 ((lenI r_6490.2) * (64 : Int)))))) then
                        none
                      else optb (slices_Clone k r_6490.1 r_6490.2) fun r_8459 =>
                      corbellaw23_speaks_i12_6_j0 (fun v_8460 v_8461 h_8474 =>
                        corbellaw23_speaks_j0 (corbellaw23_speaks_k0 k) k v_8460 v_8461 ([] : List (Int × ByteArray))) (fun v_8475 v_8476 h_8489 =>
                        corbellaw23_speaks_j0b (corbellaw23_speaks_k1 k) k v_8475 v_8476 h_8452) k h_8452 ((bytesOf z_6491) ++ (⟨#[97]⟩ : ByteArray)) r_8459.2) k k (0 : Int) ((bytesOf z_6491) ++ (⟨#[97]⟩ : ByteArray)) h_8419) k true
                else bif (decide ((lenI r_6490.2) < (0 : Int))) then
                  corbellaw23_speaks_i33_6_j0b (corbellaw23_speaks_i10_6_l0b (fun h_8509 =>
                      bif (!(decide ((sizeI ((bytesOf z_6491) ++ (⟨#[97]⟩ : ByteArray))) = (wrap64 ((lenI r_6490.2) * (64 : Int)))))) then
                        none
                      else optb (slices_Clone k r_6490.1 r_6490.2) fun r_8516 =>
                      corbellaw23_speaks_i12_6_j0 (fun v_8517 v_8518 h_8531 =>
                        corbellaw23_speaks_j0 (corbellaw23_speaks_k0 k) k v_8517 v_8518 ([] : List (Int × ByteArray))) (fun v_8532 v_8533 h_8546 =>
                        corbellaw23_speaks_j0b (corbellaw23_speaks_k1 k) k v_8532 v_8533 h_8509) k h_8509 ((bytesOf z_6491) ++ (⟨#[97]⟩ : ByteArray)) r_8516.2) k k (0 : Int) ((bytesOf z_6491) ++ (⟨#[97]⟩ : ByteArray)) h_8419) k true
                else corbellaw23_speaks_i33_6_j0b (corbellaw23_speaks_i10_6_l0b (fun h_8567 =>
                    bif (!(decide ((sizeI ((bytesOf z_6491) ++ (⟨#[97]⟩ : ByteArray))) = (wrap64 ((lenI r_6490.2) * (64 : Int)))))) then
                      none
                    else optb (slices_Clone k r_6490.1 r_6490.2) fun r_8574 =>
                    corbellaw23_speaks_i12_6_j0 (fun v_8575 v_8576 h_8589 =>
                      corbellaw23_speaks_j0 (corbellaw23_speaks_k0 k) k v_8575 v_8576 ([] : List (Int × ByteArray))) (fun v_8590 v_8591 h_8604 =>
                      corbellaw23_speaks_j0b (corbellaw23_speaks_k1 k) k v_8590 v_8591 h_8567) k h_8567 ((bytesOf z_6491) ++ (⟨#[97]⟩ : ByteArray)) r_8574.2) k k (0 : Int) ((bytesOf z_6491) ++ (⟨#[97]⟩ : ByteArray)) h_8419) k (decide ((wrap64 ((lenI r_6490.2) - (0 : Int))) < (wrap64 (Int.tdiv z_8429 (64 : Int)))))) k k (0 : Int) ((bytesOf z_6492) ++ (⟨#[98]⟩ : ByteArray)) h_8181) k true
          else corbellaw23_speaks_i33_6_j0 (corbellaw23_speaks_i10_6_l0 (fun h_8625 =>
              bif (!(decide ((Int.tmod (sizeI ((bytesOf z_6491) ++ (⟨#[97]⟩ : ByteArray))) (64 : Int)) = (0 : Int)))) then
                none
              else let z_8635 := (sizeI ((bytesOf z_6491) ++ (⟨#[97]⟩ : ByteArray)))
              bif (decide ((wrap64 (Int.tdiv z_8635 (64 : Int))) < (1 : Int))) then
                corbellaw23_speaks_i33_6_j0b (corbellaw23_speaks_i10_6_l0b (fun h_8658 =>
                    bif (!(decide ((sizeI ((bytesOf z_6491) ++ (⟨#[97]⟩ : ByteArray))) = (wrap64 ((lenI r_6490.2) * (64 : Int)))))) then
                      none
                    else optb (slices_Clone k r_6490.1 r_6490.2) fun r_8665 =>
                    corbellaw23_speaks_i12_6_j0 (fun v_8666 v_8667 h_8680 =>
                      corbellaw23_speaks_j0 (corbellaw23_speaks_k0 k) k v_8666 v_8667 ([] : List (Int × ByteArray))) (fun v_8681 v_8682 h_8695 =>
                      corbellaw23_speaks_j0b (corbellaw23_speaks_k1 k) k v_8681 v_8682 h_8658) k h_8658 ((bytesOf z_6491) ++ (⟨#[97]⟩ : ByteArray)) r_8665.2) k k (0 : Int) ((bytesOf z_6491) ++ (⟨#[97]⟩ : ByteArray)) h_8625) k true
              else bif (decide ((lenI r_6490.2) < (0 : Int))) then
                corbellaw23_speaks_i33_6_j0b (corbellaw23_speaks_i10_6_l0b (fun h_8715 =>
                    bif (!(decide ((sizeI ((bytesOf z_6491) ++ (⟨#[97]⟩ : ByteArray))) = (wrap64 ((lenI r_6490.2) * (64 : Int)))))) then
                      none
                    else optb (slices_Clone k r_6490.1 r_6490.2) fun r_8722 =>
                    corbellaw23_speaks_i12_6_j0 (fun v_8723 v_8724 h_8737 =>
                      corbellaw23_speaks_j0 (corbellaw23_speaks_k0 k) k v_8723 v_8724 ([] : List (Int × ByteArray))) (fun v_8738 v_8739 h_8752 =>
                      corbellaw23_speaks_j0b (corbellaw23_speaks_k1 k) k v_8738 v_8739 h_8715) k h_8715 ((bytesOf z_6491) ++ (⟨#[97]⟩ : ByteArray)) r_8722.2) k k (0 : Int) ((bytesOf z_6491) ++ (⟨#[97]⟩ : ByteArray)) h_8625) k true
              else corbellaw23_speaks_i33_6_j0b (corbellaw23_speaks_i10_6_l0b (fun h_8773 =>
                  bif (!(decide ((sizeI ((bytesOf z_6491) ++ (⟨#[97]⟩ : ByteArray))) = (wrap64 ((lenI r_6490.2) * (64 : Int)))))) then
                    none
                  else optb (slices_Clone k r_6490.1 r_6490.2) fun r_8780 =>
                  corbellaw23_speaks_i12_6_j0 (fun v_8781 v_8782 h_8795 =>
                    corbellaw23_speaks_j0 (corbellaw23_speaks_k0 k) k v_8781 v_8782 ([] : List (Int × ByteArray))) (fun v_8796 v_8797 h_8810 =>
                    corbellaw23_speaks_j0b (corbellaw23_speaks_k1 k) k v_8796 v_8797 h_8773) k h_8773 ((bytesOf z_6491) ++ (⟨#[97]⟩ : ByteArray)) r_8780.2) k k (0 : Int) ((bytesOf z_6491) ++ (⟨#[97]⟩ : ByteArray)) h_8625) k (decide ((wrap64 ((lenI r_6490.2) - (0 : Int))) < (wrap64 (Int.tdiv z_8635 (64 : Int)))))) k k (0 : Int) ((bytesOf z_6492) ++ (⟨#[98]⟩ : ByteArray)) h_8181) k (decide ((wrap64 ((lenI r_6490.2) - (0 : Int))) < (wrap64 (Int.tdiv z_8191 (64 : Int)))))) k k (0 : Int) ((bytesOf z_6491) ++ (⟨#[97]⟩ : ByteArray)) ([] : List (Int × ByteArray))) k (decide ((wrap64 ((lenI r_6490.2) - (0 : Int))) < (wrap64 (Int.tdiv z_6502 (64 : Int)))))
    else none
  else none
def corbellaw23_speaks_p (k : Nat) : PF := { ps := [], rs := [(false, 1)], τ := .bool, σ := .bool, f := fun x => corbellaw23_speaks k }
def corbellaw23_speaks_F (k : Nat) : PT := fcons 32 (xor_Zero_p k) <| fcons 31 (slices_Repeat_p k) <| fcons 36 (slices_Clone_p k) <| fnone
theorem corbellaw23_speaks_fok (k : Nat) : FOK Try.prog tab (corbellaw23_speaks_F k) := fok_cons (xor_Zero_ok k) Try.call32 <| fok_cons (slices_Repeat_ok k) Try.call31 <| fok_cons (slices_Clone_ok k) Try.call36 <| fok_none
def corbellaw23_speaks_c0 : Cl := { keep := [1, 5, 6], hl := 9, ad := [], adc := [(2, 1, (.pair (.int .i64) .str), 87)], bump := [] }
def corbellaw23_speaks_x0 : Cl := { keep := [0], hl := 0, ad := [], adc := [], bump := [] }
def corbellaw23_speaks_h : Hint := (.sq .no (.sq .no (.sq .no (.sq .no (.sq .no (.sq .no (.sq .no (.ct corbellaw23_speaks_c0 corbellaw23_speaks_x0 0 .no .no))))))))
def corbellaw23_speaks_j0_E0 {R : Type} (K : EX → St → Option R) : Bool → Option R := fun v0 => K .ret (mkSt 44 [] corbellaw23_speaks_x0.keep [.bool v0] [])
def corbellaw23_speaks_j0_S (n_6941 : Int) (ok_6942 : Bool) (hN_6943 : Bool) (h_6944 : List ByteArray) (hN_6945 : Bool) (h_6946 : List ByteArray) (hN_6947 : Bool) (h_6948 : List Int) (hN_6949 : Bool) (h_6950 : List Int) (hN_6951 : Bool) (h_6952 : List (Int × ByteArray)) (h_6953 : ByteArray) (jN_6954 : Bool) (j_6955 : List ByteArray) (jN_6956 : Bool) (j_6957 : List (Int × ByteArray)) : St := mkSt 44 [] corbellaw23_speaks_c0.keep [.ptr 2 0, .int .i64 n_6941, .bool ok_6942] [.lst .str 9 hN_6943 1 h_6944, .lst .str 9 hN_6945 1 h_6946, .blk [.own 7 1, .own 8 1], .lst (.int .u8) 5 hN_6947 1 h_6948, .lst (.int .u8) 5 hN_6949 1 h_6950, .lst (.pair (.int .i64) .str) 87 hN_6951 1 h_6952, .blk [.str h_6953], .lst .str 9 jN_6954 1 j_6955, .lst (.pair (.int .i64) .str) 87 jN_6956 1 j_6957]
def corbellaw23_speaks_j0_sh : Rd (List AV × List HE) := .pair (.cons (.ptr 2 0) (.cons (.int .i64) (.cons .bool Rd.nil))) (.cons (.lst .str 9 1) (.cons (.lst .str 9 1) (.cons (.blk (.cons (.own 7 1) (.cons (.own 8 1) Rd.nil))) (.cons (.lst (.int .u8) 5 1) (.cons (.lst (.int .u8) 5 1) (.cons (.lst (.pair (.int .i64) .str) 87 1) (.cons (.blk (.cons .str Rd.nil)) (.cons (.lst .str 9 1) (.cons (.lst (.pair (.int .i64) .str) 87 1) Rd.nil)))))))))
def corbellaw23_speaks_j0_a {R : Type} (k : Nat) : Alt R := { n := 44, v := [], sh := corbellaw23_speaks_j0_sh, g := fun K x => corbellaw23_speaks_j0 (corbellaw23_speaks_j0_E0 K) k x.1.2.1 x.1.2.2.1 x.2.2.2.2.2.2.2.2.2.1.2 }
def corbellaw23_speaks_j0b_E0 {R : Type} (K : EX → St → Option R) : Bool → Option R := fun v0 => K .ret (mkSt 44 [] corbellaw23_speaks_x0.keep [.bool v0] [])
def corbellaw23_speaks_j0b_S (n_6974 : Int) (ok_6975 : Bool) (hN_6976 : Bool) (h_6977 : List ByteArray) (hN_6978 : Bool) (h_6979 : List ByteArray) (hN_6980 : Bool) (h_6981 : List Int) (hN_6982 : Bool) (h_6983 : List Int) (jN_6984 : Bool) (j_6985 : List (Int × ByteArray)) (h_6986 : ByteArray) (hN_6987 : Bool) (h_6988 : List ByteArray) : St := mkSt 44 [] corbellaw23_speaks_c0.keep [.ptr 2 0, .int .i64 n_6974, .bool ok_6975] [.lst .str 9 hN_6976 1 h_6977, .lst .str 9 hN_6978 1 h_6979, .blk [.own 1 1, .own 5 1], .lst (.int .u8) 5 hN_6980 1 h_6981, .lst (.int .u8) 5 hN_6982 1 h_6983, .lst (.pair (.int .i64) .str) 87 jN_6984 1 j_6985, .blk [.str h_6986], .lst .str 9 hN_6987 1 h_6988]
def corbellaw23_speaks_j0b_sh : Rd (List AV × List HE) := .pair (.cons (.ptr 2 0) (.cons (.int .i64) (.cons .bool Rd.nil))) (.cons (.lst .str 9 1) (.cons (.lst .str 9 1) (.cons (.blk (.cons (.own 1 1) (.cons (.own 5 1) Rd.nil))) (.cons (.lst (.int .u8) 5 1) (.cons (.lst (.int .u8) 5 1) (.cons (.lst (.pair (.int .i64) .str) 87 1) (.cons (.blk (.cons .str Rd.nil)) (.cons (.lst .str 9 1) Rd.nil))))))))
def corbellaw23_speaks_j0b_a {R : Type} (k : Nat) : Alt R := { n := 44, v := [], sh := corbellaw23_speaks_j0b_sh, g := fun K x => corbellaw23_speaks_j0b (corbellaw23_speaks_j0b_E0 K) k x.1.2.1 x.1.2.2.1 x.2.2.2.2.2.2.1.2 }
def corbellaw23_speaks_O {R : Type} (k : Nat) : CutK R := cutsO [[corbellaw23_speaks_j0_a k, corbellaw23_speaks_j0b_a k]]
noncomputable def corbellaw23_speaks_b : List Ob := obs (bodyOf Try.f7) corbellaw23_speaks_h
def corbellaw23_speaks_i8_0_h : Hint := (.sq .no (.sq (.sq .no (.sq .pr .no)) .no))
def corbellaw23_speaks_i8_0_O {R : Type} (k : Nat) : CutK R := cutsO []
def corbellaw23_speaks_i10_5_c0 : Cl := { keep := [0, 1, 2], hl := 6, ad := [], adc := [(2, 1, (.pair (.int .i64) .str), 87)], bump := [] }
def corbellaw23_speaks_i10_5_x0 : Cl := { keep := [], hl := 6, ad := [], adc := [], bump := [] }
def corbellaw23_speaks_i10_5_h : Hint := (.sq .no (.sq (.sq .no (.sq .pr .no)) (.sq (.sq .no (.sq .no (.sq .pr .no))) (.sq (.lp corbellaw23_speaks_i10_5_c0 corbellaw23_speaks_i10_5_x0 0 .no) .no))))
def corbellaw23_speaks_i10_5_l0_E0 {R : Type} (K : EX → St → Option R) : Bool → List ByteArray → Bool → List ByteArray → Bool → List Int → Bool → List Int → Bool → List (Int × ByteArray) → Option R := fun v0 v1 v2 v3 v4 v5 v6 v7 v8 v9 => K (.exit 0) (mkSt 44 [1, 1, 1, 1, 1] corbellaw23_speaks_i10_5_x0.keep [] [.lst .str 9 v0 1 v1, .lst .str 9 v2 1 v3, .blk [.own 1 1, .own 5 1], .lst (.int .u8) 5 v4 1 v5, .lst (.int .u8) 5 v6 1 v7, .lst (.pair (.int .i64) .str) 87 v8 1 v9])
def corbellaw23_speaks_i10_5_l0_S (block_6523 : Int) (data_6524 : ByteArray) (hN_6525 : Bool) (h_6526 : List ByteArray) (hN_6527 : Bool) (h_6528 : List ByteArray) (hN_6529 : Bool) (h_6530 : List Int) (hN_6531 : Bool) (h_6532 : List Int) (jN_6533 : Bool) (j_6534 : List (Int × ByteArray)) : St := mkSt 44 [1, 1, 1, 1, 1] corbellaw23_speaks_i10_5_c0.keep [.ptr 2 0, .int .i64 block_6523, .str data_6524] [.lst .str 9 hN_6525 1 h_6526, .lst .str 9 hN_6527 1 h_6528, .blk [.own 1 1, .own 5 1], .lst (.int .u8) 5 hN_6529 1 h_6530, .lst (.int .u8) 5 hN_6531 1 h_6532, .lst (.pair (.int .i64) .str) 87 jN_6533 1 j_6534]
def corbellaw23_speaks_i10_5_l0_sh : Rd (List AV × List HE) := .pair (.cons (.ptr 2 0) (.cons (.int .i64) (.cons .str Rd.nil))) (.cons (.lst .str 9 1) (.cons (.lst .str 9 1) (.cons (.blk (.cons (.own 1 1) (.cons (.own 5 1) Rd.nil))) (.cons (.lst (.int .u8) 5 1) (.cons (.lst (.int .u8) 5 1) (.cons (.lst (.pair (.int .i64) .str) 87 1) Rd.nil))))))
def corbellaw23_speaks_i10_5_l0_a {R : Type} (k : Nat) : Alt R := { n := 44, v := [1, 1, 1, 1, 1], sh := corbellaw23_speaks_i10_5_l0_sh, g := fun K x => corbellaw23_speaks_i10_5_l0 (fun y9 => corbellaw23_speaks_i10_5_l0_E0 K x.2.1.1 x.2.1.2 x.2.2.1.1 x.2.2.1.2 x.2.2.2.2.1.1 x.2.2.2.2.1.2 x.2.2.2.2.2.1.1 x.2.2.2.2.2.1.2 x.2.2.2.2.2.2.1.1 y9) k k x.1.2.1 x.1.2.2.1 x.2.2.2.2.2.2.1.2 }
def corbellaw23_speaks_i10_5_O {R : Type} (k : Nat) : CutK R := cutsO [[corbellaw23_speaks_i10_5_l0_a k]]
noncomputable def corbellaw23_speaks_i10_5_b : List Ob := obs (bodyOf Try.f10) corbellaw23_speaks_i10_5_h
def corbellaw23_speaks_i33_5_c0 : Cl := { keep := [10], hl := 5, ad := [], adc := [], bump := [] }
def corbellaw23_speaks_i33_5_x0 : Cl := { keep := [6], hl := 5, ad := [], adc := [], bump := [] }
def corbellaw23_speaks_i33_5_h : Hint := (.sq .no (.sq (.sq .no (.sq .no (.ct corbellaw23_speaks_i33_5_c0 corbellaw23_speaks_i33_5_x0 0 .no (.sq .pr .no)))) .no))
def corbellaw23_speaks_i33_5_j0_E0 {R : Type} (K : EX → St → Option R) : Bool → List ByteArray → Bool → List ByteArray → Bool → List Int → Bool → List Int → Option R := fun v0 v1 v2 v3 v4 v5 v6 v7 => K .normal (mkSt 37 [1, 1, 1, 1, 1] corbellaw23_speaks_i33_5_x0.keep [.junk] [.lst .str 9 v0 1 v1, .lst .str 9 v2 1 v3, .blk [.own 1 1, .nils], .lst (.int .u8) 5 v4 1 v5, .lst (.int .u8) 5 v6 1 v7])
def corbellaw23_speaks_i33_5_j0_S (v_6506 : Bool) (hN_6507 : Bool) (h_6508 : List ByteArray) (hN_6509 : Bool) (h_6510 : List ByteArray) (hN_6511 : Bool) (h_6512 : List Int) (hN_6513 : Bool) (h_6514 : List Int) : St := mkSt 37 [1, 1, 1, 1, 1] corbellaw23_speaks_i33_5_c0.keep [.bool v_6506] [.lst .str 9 hN_6507 1 h_6508, .lst .str 9 hN_6509 1 h_6510, .blk [.own 1 1, .nils], .lst (.int .u8) 5 hN_6511 1 h_6512, .lst (.int .u8) 5 hN_6513 1 h_6514]
def corbellaw23_speaks_i33_5_j0_sh : Rd (List AV × List HE) := .pair (.cons .bool Rd.nil) (.cons (.lst .str 9 1) (.cons (.lst .str 9 1) (.cons (.blk (.cons (.own 1 1) (.cons .nils Rd.nil))) (.cons (.lst (.int .u8) 5 1) (.cons (.lst (.int .u8) 5 1) Rd.nil)))))
def corbellaw23_speaks_i33_5_j0_a {R : Type} (k : Nat) : Alt R := { n := 37, v := [1, 1, 1, 1, 1], sh := corbellaw23_speaks_i33_5_j0_sh, g := fun K x => corbellaw23_speaks_i33_5_j0 (corbellaw23_speaks_i33_5_j0_E0 K x.2.1.1 x.2.1.2 x.2.2.1.1 x.2.2.1.2 x.2.2.2.2.1.1 x.2.2.2.2.1.2 x.2.2.2.2.2.1.1 x.2.2.2.2.2.1.2) k x.1.1 }
def corbellaw23_speaks_i33_5_O {R : Type} (k : Nat) : CutK R := cutsO [[corbellaw23_speaks_i33_5_j0_a k]]
noncomputable def corbellaw23_speaks_i33_5_b : List Ob := obs (bodyOf Try.f33) corbellaw23_speaks_i33_5_h
def corbellaw23_speaks_i10_6_c0 : Cl := { keep := [0, 1, 2], hl := 6, ad := [], adc := [], bump := [5] }
def corbellaw23_speaks_i10_6_x0 : Cl := { keep := [], hl := 6, ad := [], adc := [], bump := [] }
def corbellaw23_speaks_i10_6_h : Hint := (.sq .no (.sq (.sq .no (.sq .pr .no)) (.sq (.sq .no (.sq .no (.sq .pr .no))) (.sq (.lp corbellaw23_speaks_i10_6_c0 corbellaw23_speaks_i10_6_x0 0 .no) .no))))
def corbellaw23_speaks_i10_6_l0_E0 {R : Type} (K : EX → St → Option R) : Bool → List ByteArray → Bool → List ByteArray → Bool → List Int → Bool → List Int → Bool → List (Int × ByteArray) → Option R := fun v0 v1 v2 v3 v4 v5 v6 v7 v8 v9 => K (.exit 0) (mkSt 44 [1, 1, 1, 1, 1, 1] corbellaw23_speaks_i10_6_x0.keep [] [.lst .str 9 v0 1 v1, .lst .str 9 v2 1 v3, .blk [.own 1 1, .own 5 2], .lst (.int .u8) 5 v4 1 v5, .lst (.int .u8) 5 v6 1 v7, .lst (.pair (.int .i64) .str) 87 v8 2 v9])
def corbellaw23_speaks_i10_6_l0_S (block_6586 : Int) (data_6587 : ByteArray) (hN_6588 : Bool) (h_6589 : List ByteArray) (hN_6590 : Bool) (h_6591 : List ByteArray) (hN_6592 : Bool) (h_6593 : List Int) (hN_6594 : Bool) (h_6595 : List Int) (jN_6596 : Bool) (j_6597 : List (Int × ByteArray)) : St := mkSt 44 [1, 1, 1, 1, 1, 1] corbellaw23_speaks_i10_6_c0.keep [.ptr 2 0, .int .i64 block_6586, .str data_6587] [.lst .str 9 hN_6588 1 h_6589, .lst .str 9 hN_6590 1 h_6591, .blk [.own 1 1, .own 5 2], .lst (.int .u8) 5 hN_6592 1 h_6593, .lst (.int .u8) 5 hN_6594 1 h_6595, .lst (.pair (.int .i64) .str) 87 jN_6596 2 j_6597]
def corbellaw23_speaks_i10_6_l0_sh : Rd (List AV × List HE) := .pair (.cons (.ptr 2 0) (.cons (.int .i64) (.cons .str Rd.nil))) (.cons (.lst .str 9 1) (.cons (.lst .str 9 1) (.cons (.blk (.cons (.own 1 1) (.cons (.own 5 2) Rd.nil))) (.cons (.lst (.int .u8) 5 1) (.cons (.lst (.int .u8) 5 1) (.cons (.lst (.pair (.int .i64) .str) 87 2) Rd.nil))))))
def corbellaw23_speaks_i10_6_l0_a {R : Type} (k : Nat) : Alt R := { n := 44, v := [1, 1, 1, 1, 1, 1], sh := corbellaw23_speaks_i10_6_l0_sh, g := fun K x => corbellaw23_speaks_i10_6_l0 (fun y9 => corbellaw23_speaks_i10_6_l0_E0 K x.2.1.1 x.2.1.2 x.2.2.1.1 x.2.2.1.2 x.2.2.2.2.1.1 x.2.2.2.2.1.2 x.2.2.2.2.2.1.1 x.2.2.2.2.2.1.2 x.2.2.2.2.2.2.1.1 y9) k k x.1.2.1 x.1.2.2.1 x.2.2.2.2.2.2.1.2 }
def corbellaw23_speaks_i10_6_l0b_E0 {R : Type} (K : EX → St → Option R) : Bool → List ByteArray → Bool → List ByteArray → Bool → List Int → Bool → List Int → Bool → List (Int × ByteArray) → Option R := fun v0 v1 v2 v3 v4 v5 v6 v7 v8 v9 => K (.exit 0) (mkSt 44 [1, 1, 1, 1, 1, 2] corbellaw23_speaks_i10_6_x0.keep [] [.lst .str 9 v0 1 v1, .lst .str 9 v2 1 v3, .blk [.own 1 1, .own 5 3], .lst (.int .u8) 5 v4 1 v5, .lst (.int .u8) 5 v6 1 v7, .lst (.pair (.int .i64) .str) 87 v8 3 v9])
def corbellaw23_speaks_i10_6_l0b_S (block_6649 : Int) (data_6650 : ByteArray) (hN_6651 : Bool) (h_6652 : List ByteArray) (hN_6653 : Bool) (h_6654 : List ByteArray) (hN_6655 : Bool) (h_6656 : List Int) (hN_6657 : Bool) (h_6658 : List Int) (jN_6659 : Bool) (j_6660 : List (Int × ByteArray)) : St := mkSt 44 [1, 1, 1, 1, 1, 2] corbellaw23_speaks_i10_6_c0.keep [.ptr 2 0, .int .i64 block_6649, .str data_6650] [.lst .str 9 hN_6651 1 h_6652, .lst .str 9 hN_6653 1 h_6654, .blk [.own 1 1, .own 5 3], .lst (.int .u8) 5 hN_6655 1 h_6656, .lst (.int .u8) 5 hN_6657 1 h_6658, .lst (.pair (.int .i64) .str) 87 jN_6659 3 j_6660]
def corbellaw23_speaks_i10_6_l0b_sh : Rd (List AV × List HE) := .pair (.cons (.ptr 2 0) (.cons (.int .i64) (.cons .str Rd.nil))) (.cons (.lst .str 9 1) (.cons (.lst .str 9 1) (.cons (.blk (.cons (.own 1 1) (.cons (.own 5 3) Rd.nil))) (.cons (.lst (.int .u8) 5 1) (.cons (.lst (.int .u8) 5 1) (.cons (.lst (.pair (.int .i64) .str) 87 3) Rd.nil))))))
def corbellaw23_speaks_i10_6_l0b_a {R : Type} (k : Nat) : Alt R := { n := 44, v := [1, 1, 1, 1, 1, 2], sh := corbellaw23_speaks_i10_6_l0b_sh, g := fun K x => corbellaw23_speaks_i10_6_l0b (fun y9 => corbellaw23_speaks_i10_6_l0b_E0 K x.2.1.1 x.2.1.2 x.2.2.1.1 x.2.2.1.2 x.2.2.2.2.1.1 x.2.2.2.2.1.2 x.2.2.2.2.2.1.1 x.2.2.2.2.2.1.2 x.2.2.2.2.2.2.1.1 y9) k k x.1.2.1 x.1.2.2.1 x.2.2.2.2.2.2.1.2 }
def corbellaw23_speaks_i10_6_O {R : Type} (k : Nat) : CutK R := cutsO [[corbellaw23_speaks_i10_6_l0_a k, corbellaw23_speaks_i10_6_l0b_a k]]
noncomputable def corbellaw23_speaks_i10_6_b : List Ob := obs (bodyOf Try.f10) corbellaw23_speaks_i10_6_h
def corbellaw23_speaks_i33_6_c0 : Cl := { keep := [10], hl := 6, ad := [], adc := [], bump := [] }
def corbellaw23_speaks_i33_6_x0 : Cl := { keep := [6], hl := 6, ad := [], adc := [], bump := [] }
def corbellaw23_speaks_i33_6_h : Hint := (.sq .no (.sq (.sq .no (.sq .no (.ct corbellaw23_speaks_i33_6_c0 corbellaw23_speaks_i33_6_x0 0 .no (.sq .pr .no)))) .no))
def corbellaw23_speaks_i33_6_j0_E0 {R : Type} (K : EX → St → Option R) : Bool → List ByteArray → Bool → List ByteArray → Bool → List Int → Bool → List Int → Bool → List (Int × ByteArray) → Option R := fun v0 v1 v2 v3 v4 v5 v6 v7 v8 v9 => K .normal (mkSt 37 [1, 1, 1, 1, 1, 1] corbellaw23_speaks_i33_6_x0.keep [.junk] [.lst .str 9 v0 1 v1, .lst .str 9 v2 1 v3, .blk [.own 1 1, .own 5 1], .lst (.int .u8) 5 v4 1 v5, .lst (.int .u8) 5 v6 1 v7, .lst (.pair (.int .i64) .str) 87 v8 1 v9])
def corbellaw23_speaks_i33_6_j0_S (v_6565 : Bool) (hN_6566 : Bool) (h_6567 : List ByteArray) (hN_6568 : Bool) (h_6569 : List ByteArray) (hN_6570 : Bool) (h_6571 : List Int) (hN_6572 : Bool) (h_6573 : List Int) (hN_6574 : Bool) (h_6575 : List (Int × ByteArray)) : St := mkSt 37 [1, 1, 1, 1, 1, 1] corbellaw23_speaks_i33_6_c0.keep [.bool v_6565] [.lst .str 9 hN_6566 1 h_6567, .lst .str 9 hN_6568 1 h_6569, .blk [.own 1 1, .own 5 1], .lst (.int .u8) 5 hN_6570 1 h_6571, .lst (.int .u8) 5 hN_6572 1 h_6573, .lst (.pair (.int .i64) .str) 87 hN_6574 1 h_6575]
def corbellaw23_speaks_i33_6_j0_sh : Rd (List AV × List HE) := .pair (.cons .bool Rd.nil) (.cons (.lst .str 9 1) (.cons (.lst .str 9 1) (.cons (.blk (.cons (.own 1 1) (.cons (.own 5 1) Rd.nil))) (.cons (.lst (.int .u8) 5 1) (.cons (.lst (.int .u8) 5 1) (.cons (.lst (.pair (.int .i64) .str) 87 1) Rd.nil))))))
def corbellaw23_speaks_i33_6_j0_a {R : Type} (k : Nat) : Alt R := { n := 37, v := [1, 1, 1, 1, 1, 1], sh := corbellaw23_speaks_i33_6_j0_sh, g := fun K x => corbellaw23_speaks_i33_6_j0 (corbellaw23_speaks_i33_6_j0_E0 K x.2.1.1 x.2.1.2 x.2.2.1.1 x.2.2.1.2 x.2.2.2.2.1.1 x.2.2.2.2.1.2 x.2.2.2.2.2.1.1 x.2.2.2.2.2.1.2 x.2.2.2.2.2.2.1.1 x.2.2.2.2.2.2.1.2) k x.1.1 }
def corbellaw23_speaks_i33_6_j0b_E0 {R : Type} (K : EX → St → Option R) : Bool → List ByteArray → Bool → List ByteArray → Bool → List Int → Bool → List Int → Bool → List (Int × ByteArray) → Option R := fun v0 v1 v2 v3 v4 v5 v6 v7 v8 v9 => K .normal (mkSt 37 [1, 1, 1, 1, 1, 2] corbellaw23_speaks_i33_6_x0.keep [.junk] [.lst .str 9 v0 1 v1, .lst .str 9 v2 1 v3, .blk [.own 1 1, .own 5 2], .lst (.int .u8) 5 v4 1 v5, .lst (.int .u8) 5 v6 1 v7, .lst (.pair (.int .i64) .str) 87 v8 2 v9])
def corbellaw23_speaks_i33_6_j0b_S (v_6628 : Bool) (hN_6629 : Bool) (h_6630 : List ByteArray) (hN_6631 : Bool) (h_6632 : List ByteArray) (hN_6633 : Bool) (h_6634 : List Int) (hN_6635 : Bool) (h_6636 : List Int) (hN_6637 : Bool) (h_6638 : List (Int × ByteArray)) : St := mkSt 37 [1, 1, 1, 1, 1, 2] corbellaw23_speaks_i33_6_c0.keep [.bool v_6628] [.lst .str 9 hN_6629 1 h_6630, .lst .str 9 hN_6631 1 h_6632, .blk [.own 1 1, .own 5 2], .lst (.int .u8) 5 hN_6633 1 h_6634, .lst (.int .u8) 5 hN_6635 1 h_6636, .lst (.pair (.int .i64) .str) 87 hN_6637 2 h_6638]
def corbellaw23_speaks_i33_6_j0b_sh : Rd (List AV × List HE) := .pair (.cons .bool Rd.nil) (.cons (.lst .str 9 1) (.cons (.lst .str 9 1) (.cons (.blk (.cons (.own 1 1) (.cons (.own 5 2) Rd.nil))) (.cons (.lst (.int .u8) 5 1) (.cons (.lst (.int .u8) 5 1) (.cons (.lst (.pair (.int .i64) .str) 87 2) Rd.nil))))))
def corbellaw23_speaks_i33_6_j0b_a {R : Type} (k : Nat) : Alt R := { n := 37, v := [1, 1, 1, 1, 1, 2], sh := corbellaw23_speaks_i33_6_j0b_sh, g := fun K x => corbellaw23_speaks_i33_6_j0b (corbellaw23_speaks_i33_6_j0b_E0 K x.2.1.1 x.2.1.2 x.2.2.1.1 x.2.2.1.2 x.2.2.2.2.1.1 x.2.2.2.2.1.2 x.2.2.2.2.2.1.1 x.2.2.2.2.2.1.2 x.2.2.2.2.2.2.1.1 x.2.2.2.2.2.2.1.2) k x.1.1 }
def corbellaw23_speaks_i33_6_O {R : Type} (k : Nat) : CutK R := cutsO [[corbellaw23_speaks_i33_6_j0_a k, corbellaw23_speaks_i33_6_j0b_a k]]
noncomputable def corbellaw23_speaks_i33_6_b : List Ob := obs (bodyOf Try.f33) corbellaw23_speaks_i33_6_h
def corbellaw23_speaks_i12_6_c0 : Cl := { keep := [0, 3, 6], hl := 9, ad := [], adc := [], bump := [] }
def corbellaw23_speaks_i12_6_x0 : Cl := { keep := [4, 5], hl := 8, ad := [], adc := [], bump := [] }
def corbellaw23_speaks_i12_6_c1 : Cl := { keep := [0, 6, 7, 8, 32, 33], hl := 9, ad := [], adc := [], bump := [] }
def corbellaw23_speaks_i12_6_x1 : Cl := { keep := [0, 6, 7, 8], hl := 9, ad := [], adc := [], bump := [] }
def corbellaw23_speaks_i12_6_c2 : Cl := { keep := [0, 6, 7, 8, 32, 33], hl := 9, ad := [], adc := [], bump := [] }
def corbellaw23_speaks_i12_6_x2 : Cl := { keep := [0, 6, 7, 8, 32, 33], hl := 9, ad := [], adc := [], bump := [] }
def corbellaw23_speaks_i12_6_c3 : Cl := { keep := [0, 6, 7, 8, 10], hl := 9, ad := [], adc := [], bump := [] }
def corbellaw23_speaks_i12_6_x3 : Cl := { keep := [4, 5], hl := 8, ad := [], adc := [], bump := [] }
def corbellaw23_speaks_i12_6_c4 : Cl := { keep := [0, 6, 7, 8, 10, 11], hl := 10, ad := [], adc := [], bump := [] }
def corbellaw23_speaks_i12_6_x4 : Cl := { keep := [0, 6, 7, 8, 10], hl := 9, ad := [], adc := [], bump := [] }
def corbellaw23_speaks_i12_6_c5 : Cl := { keep := [0, 6, 7, 8, 10], hl := 9, ad := [], adc := [], bump := [] }
def corbellaw23_speaks_i12_6_x5 : Cl := { keep := [0, 6, 7, 8, 10], hl := 9, ad := [], adc := [], bump := [] }
def corbellaw23_speaks_i12_6_h : Hint := (.sq .no (.sq (.sq .no (.sq .pr .no)) (.ct corbellaw23_speaks_i12_6_c0 corbellaw23_speaks_i12_6_x0 0 .no (.sq .no (.sq .no (.sq (.sq .no (.lp corbellaw23_speaks_i12_6_c1 corbellaw23_speaks_i12_6_x1 1 (.sq .no (.sq .no (.ct corbellaw23_speaks_i12_6_c2 corbellaw23_speaks_i12_6_x2 2 .no .no))))) (.sq .no (.lp corbellaw23_speaks_i12_6_c3 corbellaw23_speaks_i12_6_x3 3 (.ct corbellaw23_speaks_i12_6_c5 corbellaw23_speaks_i12_6_x5 5 (.sq .no (.sq .no (.sq .no (.ct corbellaw23_speaks_i12_6_c4 corbellaw23_speaks_i12_6_x4 4 .no .no)))) .no)))))))))
def corbellaw23_speaks_i12_6_j0_E0 {R : Type} (K : EX → St → Option R) : Int → Bool → Bool → List ByteArray → Bool → List ByteArray → Bool → List Int → Bool → List Int → Bool → List (Int × ByteArray) → ByteArray → Bool → List ByteArray → Option R := fun v0 v1 v2 v3 v4 v5 v6 v7 v8 v9 v10 v11 v12 v13 v14 => K .ret (mkSt 86 [1, 1, 1, 1, 1, 3] corbellaw23_speaks_i12_6_x0.keep [.int .i64 v0, .bool v1] [.lst .str 9 v2 1 v3, .lst .str 9 v4 1 v5, .blk [.own 7 1, .nils], .lst (.int .u8) 5 v6 1 v7, .lst (.int .u8) 5 v8 1 v9, .lst (.pair (.int .i64) .str) 87 v10 3 v11, .blk [.str v12], .lst .str 9 v13 1 v14])
def corbellaw23_speaks_i12_6_j0_E1 {R : Type} (K : EX → St → Option R) : Int → Bool → Bool → List ByteArray → Bool → List ByteArray → Bool → List Int → Bool → List Int → Bool → List (Int × ByteArray) → ByteArray → Bool → List ByteArray → Option R := fun v0 v1 v2 v3 v4 v5 v6 v7 v8 v9 v10 v11 v12 v13 v14 => K .ret (mkSt 86 [1, 1, 1, 1, 1, 3] corbellaw23_speaks_i12_6_x0.keep [.int .i64 v0, .bool v1] [.lst .str 9 v2 1 v3, .lst .str 9 v4 1 v5, .blk [.own 1 1, .own 5 3], .lst (.int .u8) 5 v6 1 v7, .lst (.int .u8) 5 v8 1 v9, .lst (.pair (.int .i64) .str) 87 v10 3 v11, .blk [.str v12], .lst .str 9 v13 1 v14])
def corbellaw23_speaks_i12_6_j0_S (hN_6685 : Bool) (h_6686 : List ByteArray) (hN_6687 : Bool) (h_6688 : List ByteArray) (hN_6689 : Bool) (h_6690 : List Int) (hN_6691 : Bool) (h_6692 : List Int) (jN_6693 : Bool) (j_6694 : List (Int × ByteArray)) (all_6695 : ByteArray) (hN_6696 : Bool) (h_6697 : List ByteArray) : St := mkSt 86 [1, 1, 1, 1, 1, 3] corbellaw23_speaks_i12_6_c0.keep [.ptr 2 0, .ptr 6 0, .ptr 8 0] [.lst .str 9 hN_6685 1 h_6686, .lst .str 9 hN_6687 1 h_6688, .blk [.own 1 1, .own 5 3], .lst (.int .u8) 5 hN_6689 1 h_6690, .lst (.int .u8) 5 hN_6691 1 h_6692, .lst (.pair (.int .i64) .str) 87 jN_6693 3 j_6694, .blk [.str all_6695], .lst .str 9 hN_6696 1 h_6697, .blk [.own 7 1]]
def corbellaw23_speaks_i12_6_j0_sh : Rd (List AV × List HE) := .pair (.cons (.ptr 2 0) (.cons (.ptr 6 0) (.cons (.ptr 8 0) Rd.nil))) (.cons (.lst .str 9 1) (.cons (.lst .str 9 1) (.cons (.blk (.cons (.own 1 1) (.cons (.own 5 3) Rd.nil))) (.cons (.lst (.int .u8) 5 1) (.cons (.lst (.int .u8) 5 1) (.cons (.lst (.pair (.int .i64) .str) 87 3) (.cons (.blk (.cons .str Rd.nil)) (.cons (.lst .str 9 1) (.cons (.blk (.cons (.own 7 1) Rd.nil)) Rd.nil)))))))))
def corbellaw23_speaks_i12_6_j0_a {R : Type} (k : Nat) : Alt R := { n := 86, v := [1, 1, 1, 1, 1, 3], sh := corbellaw23_speaks_i12_6_j0_sh, g := fun K x => corbellaw23_speaks_i12_6_j0 (fun y0 y1 y14 => corbellaw23_speaks_i12_6_j0_E0 K y0 y1 x.2.1.1 x.2.1.2 x.2.2.1.1 x.2.2.1.2 x.2.2.2.2.1.1 x.2.2.2.2.1.2 x.2.2.2.2.2.1.1 x.2.2.2.2.2.1.2 x.2.2.2.2.2.2.1.1 x.2.2.2.2.2.2.1.2 x.2.2.2.2.2.2.2.1.1 x.2.2.2.2.2.2.2.2.1.1 y14) (fun y0 y1 y14 => corbellaw23_speaks_i12_6_j0_E1 K y0 y1 x.2.1.1 x.2.1.2 x.2.2.1.1 x.2.2.1.2 x.2.2.2.2.1.1 x.2.2.2.2.1.2 x.2.2.2.2.2.1.1 x.2.2.2.2.2.1.2 x.2.2.2.2.2.2.1.1 x.2.2.2.2.2.2.1.2 x.2.2.2.2.2.2.2.1.1 x.2.2.2.2.2.2.2.2.1.1 y14) k x.2.2.2.2.2.2.1.2 x.2.2.2.2.2.2.2.1.1 x.2.2.2.2.2.2.2.2.1.2 }
def corbellaw23_speaks_i12_6_l1_E0 {R : Type} (K : EX → St → Option R) : Int → Bool → List ByteArray → Bool → List ByteArray → Bool → List Int → Bool → List Int → Bool → List (Int × ByteArray) → ByteArray → Bool → List ByteArray → Option R := fun v0 v1 v2 v3 v4 v5 v6 v7 v8 v9 v10 v11 v12 v13 => K (.exit 0) (mkSt 86 [1, 1, 1, 1, 1, 3] corbellaw23_speaks_i12_6_x1.keep [.ptr 2 0, .ptr 8 0, .fn (.func 37) [] [.ptr 8 0, .ptr 6 0], .int .i64 v0] [.lst .str 9 v1 1 v2, .lst .str 9 v3 1 v4, .blk [.own 1 1, .own 5 3], .lst (.int .u8) 5 v5 1 v6, .lst (.int .u8) 5 v7 1 v8, .lst (.pair (.int .i64) .str) 87 v9 3 v10, .blk [.str v11], .lst .str 9 v12 1 v13, .blk [.own 7 1]])
def corbellaw23_speaks_i12_6_l1_S (wrong_6698 : Int) (v_6699 : Int) (v_6700 : Int) (hN_6701 : Bool) (h_6702 : List ByteArray) (hN_6703 : Bool) (h_6704 : List ByteArray) (hN_6705 : Bool) (h_6706 : List Int) (hN_6707 : Bool) (h_6708 : List Int) (jN_6709 : Bool) (j_6710 : List (Int × ByteArray)) (h_6711 : ByteArray) (hN_6712 : Bool) (h_6713 : List ByteArray) : St := mkSt 86 [1, 1, 1, 1, 1, 3] corbellaw23_speaks_i12_6_c1.keep [.ptr 2 0, .ptr 8 0, .fn (.func 37) [] [.ptr 8 0, .ptr 6 0], .int .i64 wrong_6698, .int .i64 v_6699, .int .i64 v_6700] [.lst .str 9 hN_6701 1 h_6702, .lst .str 9 hN_6703 1 h_6704, .blk [.own 1 1, .own 5 3], .lst (.int .u8) 5 hN_6705 1 h_6706, .lst (.int .u8) 5 hN_6707 1 h_6708, .lst (.pair (.int .i64) .str) 87 jN_6709 3 j_6710, .blk [.str h_6711], .lst .str 9 hN_6712 1 h_6713, .blk [.own 7 1]]
def corbellaw23_speaks_i12_6_l1_sh : Rd (List AV × List HE) := .pair (.cons (.ptr 2 0) (.cons (.ptr 8 0) (.cons (.fn 37 Rd.nil (.cons (.ptr 8 0) (.cons (.ptr 6 0) Rd.nil))) (.cons (.int .i64) (.cons (.int .i64) (.cons (.int .i64) Rd.nil)))))) (.cons (.lst .str 9 1) (.cons (.lst .str 9 1) (.cons (.blk (.cons (.own 1 1) (.cons (.own 5 3) Rd.nil))) (.cons (.lst (.int .u8) 5 1) (.cons (.lst (.int .u8) 5 1) (.cons (.lst (.pair (.int .i64) .str) 87 3) (.cons (.blk (.cons .str Rd.nil)) (.cons (.lst .str 9 1) (.cons (.blk (.cons (.own 7 1) Rd.nil)) Rd.nil)))))))))
def corbellaw23_speaks_i12_6_l1_a {R : Type} (k : Nat) : Alt R := { n := 86, v := [1, 1, 1, 1, 1, 3], sh := corbellaw23_speaks_i12_6_l1_sh, g := fun K x => corbellaw23_speaks_i12_6_l1 (fun y0 => corbellaw23_speaks_i12_6_l1_E0 K y0 x.2.1.1 x.2.1.2 x.2.2.1.1 x.2.2.1.2 x.2.2.2.2.1.1 x.2.2.2.2.1.2 x.2.2.2.2.2.1.1 x.2.2.2.2.2.1.2 x.2.2.2.2.2.2.1.1 x.2.2.2.2.2.2.1.2 x.2.2.2.2.2.2.2.1.1 x.2.2.2.2.2.2.2.2.1.1 x.2.2.2.2.2.2.2.2.1.2) k x.1.2.2.2.2.1 x.2.2.2.2.2.2.2.1.1 x.2.2.2.2.2.2.2.2.1.2 k x.1.2.2.2.1 x.1.2.2.2.2.2.1 }
def corbellaw23_speaks_i12_6_j2_E0 {R : Type} (K : EX → St → Option R) : Int → Int → Int → Bool → List ByteArray → Bool → List ByteArray → Bool → List Int → Bool → List Int → Bool → List (Int × ByteArray) → ByteArray → Bool → List ByteArray → Option R := fun v0 v1 v2 v3 v4 v5 v6 v7 v8 v9 v10 v11 v12 v13 v14 v15 => K .normal (mkSt 86 [1, 1, 1, 1, 1, 3] corbellaw23_speaks_i12_6_x2.keep [.ptr 2 0, .ptr 8 0, .fn (.func 37) [] [.ptr 8 0, .ptr 6 0], .int .i64 v0, .int .i64 v1, .int .i64 v2] [.lst .str 9 v3 1 v4, .lst .str 9 v5 1 v6, .blk [.own 1 1, .own 5 3], .lst (.int .u8) 5 v7 1 v8, .lst (.int .u8) 5 v9 1 v10, .lst (.pair (.int .i64) .str) 87 v11 3 v12, .blk [.str v13], .lst .str 9 v14 1 v15, .blk [.own 7 1]])
def corbellaw23_speaks_i12_6_j2_S (wrong_6717 : Int) (v_6718 : Int) (v_6719 : Int) (hN_6720 : Bool) (h_6721 : List ByteArray) (hN_6722 : Bool) (h_6723 : List ByteArray) (hN_6724 : Bool) (h_6725 : List Int) (hN_6726 : Bool) (h_6727 : List Int) (jN_6728 : Bool) (j_6729 : List (Int × ByteArray)) (h_6730 : ByteArray) (hN_6731 : Bool) (h_6732 : List ByteArray) : St := mkSt 86 [1, 1, 1, 1, 1, 3] corbellaw23_speaks_i12_6_c2.keep [.ptr 2 0, .ptr 8 0, .fn (.func 37) [] [.ptr 8 0, .ptr 6 0], .int .i64 wrong_6717, .int .i64 v_6718, .int .i64 v_6719] [.lst .str 9 hN_6720 1 h_6721, .lst .str 9 hN_6722 1 h_6723, .blk [.own 1 1, .own 5 3], .lst (.int .u8) 5 hN_6724 1 h_6725, .lst (.int .u8) 5 hN_6726 1 h_6727, .lst (.pair (.int .i64) .str) 87 jN_6728 3 j_6729, .blk [.str h_6730], .lst .str 9 hN_6731 1 h_6732, .blk [.own 7 1]]
def corbellaw23_speaks_i12_6_j2_sh : Rd (List AV × List HE) := .pair (.cons (.ptr 2 0) (.cons (.ptr 8 0) (.cons (.fn 37 Rd.nil (.cons (.ptr 8 0) (.cons (.ptr 6 0) Rd.nil))) (.cons (.int .i64) (.cons (.int .i64) (.cons (.int .i64) Rd.nil)))))) (.cons (.lst .str 9 1) (.cons (.lst .str 9 1) (.cons (.blk (.cons (.own 1 1) (.cons (.own 5 3) Rd.nil))) (.cons (.lst (.int .u8) 5 1) (.cons (.lst (.int .u8) 5 1) (.cons (.lst (.pair (.int .i64) .str) 87 3) (.cons (.blk (.cons .str Rd.nil)) (.cons (.lst .str 9 1) (.cons (.blk (.cons (.own 7 1) Rd.nil)) Rd.nil)))))))))
def corbellaw23_speaks_i12_6_j2_a {R : Type} (k : Nat) : Alt R := { n := 86, v := [1, 1, 1, 1, 1, 3], sh := corbellaw23_speaks_i12_6_j2_sh, g := fun K x => corbellaw23_speaks_i12_6_j2 (fun y2 => corbellaw23_speaks_i12_6_j2_E0 K x.1.2.2.2.1 x.1.2.2.2.2.1 y2 x.2.1.1 x.2.1.2 x.2.2.1.1 x.2.2.1.2 x.2.2.2.2.1.1 x.2.2.2.2.1.2 x.2.2.2.2.2.1.1 x.2.2.2.2.2.1.2 x.2.2.2.2.2.2.1.1 x.2.2.2.2.2.2.1.2 x.2.2.2.2.2.2.2.1.1 x.2.2.2.2.2.2.2.2.1.1 x.2.2.2.2.2.2.2.2.1.2) k x.1.2.2.2.2.2.1 }
def corbellaw23_speaks_i12_6_l3_E0 {R : Type} (K : EX → St → Option R) : Int → Bool → Bool → List ByteArray → Bool → List ByteArray → Bool → List Int → Bool → List Int → Bool → List (Int × ByteArray) → ByteArray → Bool → List ByteArray → Option R := fun v0 v1 v2 v3 v4 v5 v6 v7 v8 v9 v10 v11 v12 v13 v14 => K .ret (mkSt 86 [1, 1, 1, 1, 1, 3] corbellaw23_speaks_i12_6_x3.keep [.int .i64 v0, .bool v1] [.lst .str 9 v2 1 v3, .lst .str 9 v4 1 v5, .blk [.own 7 1, .nils], .lst (.int .u8) 5 v6 1 v7, .lst (.int .u8) 5 v8 1 v9, .lst (.pair (.int .i64) .str) 87 v10 3 v11, .blk [.str v12], .lst .str 9 v13 1 v14])
def corbellaw23_speaks_i12_6_l3_E1 {R : Type} (K : EX → St → Option R) : Int → Bool → Bool → List ByteArray → Bool → List ByteArray → Bool → List Int → Bool → List Int → Bool → List (Int × ByteArray) → ByteArray → Bool → List ByteArray → Option R := fun v0 v1 v2 v3 v4 v5 v6 v7 v8 v9 v10 v11 v12 v13 v14 => K .ret (mkSt 86 [1, 1, 1, 1, 1, 3] corbellaw23_speaks_i12_6_x3.keep [.int .i64 v0, .bool v1] [.lst .str 9 v2 1 v3, .lst .str 9 v4 1 v5, .blk [.own 1 1, .own 5 3], .lst (.int .u8) 5 v6 1 v7, .lst (.int .u8) 5 v8 1 v9, .lst (.pair (.int .i64) .str) 87 v10 3 v11, .blk [.str v12], .lst .str 9 v13 1 v14])
def corbellaw23_speaks_i12_6_l3_S (wrong_6779 : Int) (n_6780 : Int) (hN_6781 : Bool) (h_6782 : List ByteArray) (hN_6783 : Bool) (h_6784 : List ByteArray) (hN_6785 : Bool) (h_6786 : List Int) (hN_6787 : Bool) (h_6788 : List Int) (jN_6789 : Bool) (j_6790 : List (Int × ByteArray)) (h_6791 : ByteArray) (hN_6792 : Bool) (h_6793 : List ByteArray) : St := mkSt 86 [1, 1, 1, 1, 1, 3] corbellaw23_speaks_i12_6_c3.keep [.ptr 2 0, .ptr 8 0, .fn (.func 37) [] [.ptr 8 0, .ptr 6 0], .int .i64 wrong_6779, .int .i64 n_6780] [.lst .str 9 hN_6781 1 h_6782, .lst .str 9 hN_6783 1 h_6784, .blk [.own 1 1, .own 5 3], .lst (.int .u8) 5 hN_6785 1 h_6786, .lst (.int .u8) 5 hN_6787 1 h_6788, .lst (.pair (.int .i64) .str) 87 jN_6789 3 j_6790, .blk [.str h_6791], .lst .str 9 hN_6792 1 h_6793, .blk [.own 7 1]]
def corbellaw23_speaks_i12_6_l3_sh : Rd (List AV × List HE) := .pair (.cons (.ptr 2 0) (.cons (.ptr 8 0) (.cons (.fn 37 Rd.nil (.cons (.ptr 8 0) (.cons (.ptr 6 0) Rd.nil))) (.cons (.int .i64) (.cons (.int .i64) Rd.nil))))) (.cons (.lst .str 9 1) (.cons (.lst .str 9 1) (.cons (.blk (.cons (.own 1 1) (.cons (.own 5 3) Rd.nil))) (.cons (.lst (.int .u8) 5 1) (.cons (.lst (.int .u8) 5 1) (.cons (.lst (.pair (.int .i64) .str) 87 3) (.cons (.blk (.cons .str Rd.nil)) (.cons (.lst .str 9 1) (.cons (.blk (.cons (.own 7 1) Rd.nil)) Rd.nil)))))))))
def corbellaw23_speaks_i12_6_l3_a {R : Type} (k : Nat) : Alt R := { n := 86, v := [1, 1, 1, 1, 1, 3], sh := corbellaw23_speaks_i12_6_l3_sh, g := fun K x => corbellaw23_speaks_i12_6_l3 (fun y0 y1 y14 => corbellaw23_speaks_i12_6_l3_E0 K y0 y1 x.2.1.1 x.2.1.2 x.2.2.1.1 x.2.2.1.2 x.2.2.2.2.1.1 x.2.2.2.2.1.2 x.2.2.2.2.2.1.1 x.2.2.2.2.2.1.2 x.2.2.2.2.2.2.1.1 x.2.2.2.2.2.2.1.2 x.2.2.2.2.2.2.2.1.1 x.2.2.2.2.2.2.2.2.1.1 y14) (fun y0 y1 y14 => corbellaw23_speaks_i12_6_l3_E1 K y0 y1 x.2.1.1 x.2.1.2 x.2.2.1.1 x.2.2.1.2 x.2.2.2.2.1.1 x.2.2.2.2.1.2 x.2.2.2.2.2.1.1 x.2.2.2.2.2.1.2 x.2.2.2.2.2.2.1.1 x.2.2.2.2.2.2.1.2 x.2.2.2.2.2.2.2.1.1 x.2.2.2.2.2.2.2.2.1.1 y14) k x.2.2.2.2.2.2.1.2 x.2.2.2.2.2.2.2.1.1 k x.1.2.2.2.1 x.1.2.2.2.2.1 x.2.2.2.2.2.2.2.2.1.2 }
def corbellaw23_speaks_i12_6_j4_E0 {R : Type} (K : EX → St → Option R) : Int → Int → Bool → List ByteArray → Bool → List ByteArray → Bool → List Int → Bool → List Int → Bool → List (Int × ByteArray) → ByteArray → Bool → List ByteArray → Option R := fun v0 v1 v2 v3 v4 v5 v6 v7 v8 v9 v10 v11 v12 v13 v14 => K .normal (mkSt 86 [1, 1, 1, 1, 1, 3] corbellaw23_speaks_i12_6_x4.keep [.ptr 2 0, .ptr 8 0, .fn (.func 37) [] [.ptr 8 0, .ptr 6 0], .int .i64 v0, .int .i64 v1] [.lst .str 9 v2 1 v3, .lst .str 9 v4 1 v5, .blk [.own 1 1, .own 5 3], .lst (.int .u8) 5 v6 1 v7, .lst (.int .u8) 5 v8 1 v9, .lst (.pair (.int .i64) .str) 87 v10 3 v11, .blk [.str v12], .lst .str 9 v13 1 v14, .blk [.own 7 1]])
def corbellaw23_speaks_i12_6_j4_S (wrong_6799 : Int) (n_6800 : Int) (hN_6801 : Bool) (h_6802 : List ByteArray) (hN_6803 : Bool) (h_6804 : List ByteArray) (hN_6805 : Bool) (h_6806 : List Int) (hN_6807 : Bool) (h_6808 : List Int) (jN_6809 : Bool) (j_6810 : List (Int × ByteArray)) (h_6811 : ByteArray) (hN_6812 : Bool) (h_6813 : List ByteArray) (sa_6814 : Int) (sb_6815 : ByteArray) : St := mkSt 86 [1, 1, 1, 1, 1, 3] corbellaw23_speaks_i12_6_c4.keep [.ptr 2 0, .ptr 8 0, .fn (.func 37) [] [.ptr 8 0, .ptr 6 0], .int .i64 wrong_6799, .int .i64 n_6800, .ptr 9 0] [.lst .str 9 hN_6801 1 h_6802, .lst .str 9 hN_6803 1 h_6804, .blk [.own 1 1, .own 5 3], .lst (.int .u8) 5 hN_6805 1 h_6806, .lst (.int .u8) 5 hN_6807 1 h_6808, .lst (.pair (.int .i64) .str) 87 jN_6809 3 j_6810, .blk [.str h_6811], .lst .str 9 hN_6812 1 h_6813, .blk [.own 7 1], .blk [.int .i64 sa_6814, .str sb_6815]]
def corbellaw23_speaks_i12_6_j4_sh : Rd (List AV × List HE) := .pair (.cons (.ptr 2 0) (.cons (.ptr 8 0) (.cons (.fn 37 Rd.nil (.cons (.ptr 8 0) (.cons (.ptr 6 0) Rd.nil))) (.cons (.int .i64) (.cons (.int .i64) (.cons (.ptr 9 0) Rd.nil)))))) (.cons (.lst .str 9 1) (.cons (.lst .str 9 1) (.cons (.blk (.cons (.own 1 1) (.cons (.own 5 3) Rd.nil))) (.cons (.lst (.int .u8) 5 1) (.cons (.lst (.int .u8) 5 1) (.cons (.lst (.pair (.int .i64) .str) 87 3) (.cons (.blk (.cons .str Rd.nil)) (.cons (.lst .str 9 1) (.cons (.blk (.cons (.own 7 1) Rd.nil)) (.cons (.blk (.cons (.int .i64) (.cons .str Rd.nil))) Rd.nil))))))))))
def corbellaw23_speaks_i12_6_j4_a {R : Type} (k : Nat) : Alt R := { n := 86, v := [1, 1, 1, 1, 1, 3], sh := corbellaw23_speaks_i12_6_j4_sh, g := fun K x => corbellaw23_speaks_i12_6_j4 (fun y0 y14 => corbellaw23_speaks_i12_6_j4_E0 K y0 x.1.2.2.2.2.1 x.2.1.1 x.2.1.2 x.2.2.1.1 x.2.2.1.2 x.2.2.2.2.1.1 x.2.2.2.2.1.2 x.2.2.2.2.2.1.1 x.2.2.2.2.2.1.2 x.2.2.2.2.2.2.1.1 x.2.2.2.2.2.2.1.2 x.2.2.2.2.2.2.2.1.1 x.2.2.2.2.2.2.2.2.1.1 y14) k x.1.2.2.2.1 x.2.2.2.2.2.2.2.1.1 x.2.2.2.2.2.2.2.2.1.2 x.2.2.2.2.2.2.2.2.2.2.1.1 x.2.2.2.2.2.2.2.2.2.2.1.2.1 }
def corbellaw23_speaks_i12_6_j5_E0 {R : Type} (K : EX → St → Option R) : Int → Int → Bool → List ByteArray → Bool → List ByteArray → Bool → List Int → Bool → List Int → Bool → List (Int × ByteArray) → ByteArray → Bool → List ByteArray → Option R := fun v0 v1 v2 v3 v4 v5 v6 v7 v8 v9 v10 v11 v12 v13 v14 => K .normal (mkSt 86 [1, 1, 1, 1, 1, 3] corbellaw23_speaks_i12_6_x5.keep [.ptr 2 0, .ptr 8 0, .fn (.func 37) [] [.ptr 8 0, .ptr 6 0], .int .i64 v0, .int .i64 v1] [.lst .str 9 v2 1 v3, .lst .str 9 v4 1 v5, .blk [.own 1 1, .own 5 3], .lst (.int .u8) 5 v6 1 v7, .lst (.int .u8) 5 v8 1 v9, .lst (.pair (.int .i64) .str) 87 v10 3 v11, .blk [.str v12], .lst .str 9 v13 1 v14, .blk [.own 7 1]])
def corbellaw23_speaks_i12_6_j5_S (wrong_6836 : Int) (n_6837 : Int) (hN_6838 : Bool) (h_6839 : List ByteArray) (hN_6840 : Bool) (h_6841 : List ByteArray) (hN_6842 : Bool) (h_6843 : List Int) (hN_6844 : Bool) (h_6845 : List Int) (jN_6846 : Bool) (j_6847 : List (Int × ByteArray)) (h_6848 : ByteArray) (hN_6849 : Bool) (h_6850 : List ByteArray) : St := mkSt 86 [1, 1, 1, 1, 1, 3] corbellaw23_speaks_i12_6_c5.keep [.ptr 2 0, .ptr 8 0, .fn (.func 37) [] [.ptr 8 0, .ptr 6 0], .int .i64 wrong_6836, .int .i64 n_6837] [.lst .str 9 hN_6838 1 h_6839, .lst .str 9 hN_6840 1 h_6841, .blk [.own 1 1, .own 5 3], .lst (.int .u8) 5 hN_6842 1 h_6843, .lst (.int .u8) 5 hN_6844 1 h_6845, .lst (.pair (.int .i64) .str) 87 jN_6846 3 j_6847, .blk [.str h_6848], .lst .str 9 hN_6849 1 h_6850, .blk [.own 7 1]]
def corbellaw23_speaks_i12_6_j5_sh : Rd (List AV × List HE) := .pair (.cons (.ptr 2 0) (.cons (.ptr 8 0) (.cons (.fn 37 Rd.nil (.cons (.ptr 8 0) (.cons (.ptr 6 0) Rd.nil))) (.cons (.int .i64) (.cons (.int .i64) Rd.nil))))) (.cons (.lst .str 9 1) (.cons (.lst .str 9 1) (.cons (.blk (.cons (.own 1 1) (.cons (.own 5 3) Rd.nil))) (.cons (.lst (.int .u8) 5 1) (.cons (.lst (.int .u8) 5 1) (.cons (.lst (.pair (.int .i64) .str) 87 3) (.cons (.blk (.cons .str Rd.nil)) (.cons (.lst .str 9 1) (.cons (.blk (.cons (.own 7 1) Rd.nil)) Rd.nil)))))))))
def corbellaw23_speaks_i12_6_j5_a {R : Type} (k : Nat) : Alt R := { n := 86, v := [1, 1, 1, 1, 1, 3], sh := corbellaw23_speaks_i12_6_j5_sh, g := fun K x => corbellaw23_speaks_i12_6_j5 (fun y1 => corbellaw23_speaks_i12_6_j5_E0 K x.1.2.2.2.1 y1 x.2.1.1 x.2.1.2 x.2.2.1.1 x.2.2.1.2 x.2.2.2.2.1.1 x.2.2.2.2.1.2 x.2.2.2.2.2.1.1 x.2.2.2.2.2.1.2 x.2.2.2.2.2.2.1.1 x.2.2.2.2.2.2.1.2 x.2.2.2.2.2.2.2.1.1 x.2.2.2.2.2.2.2.2.1.1 x.2.2.2.2.2.2.2.2.1.2) k x.1.2.2.2.2.1 }
def corbellaw23_speaks_i12_6_O {R : Type} (k : Nat) : CutK R := cutsO [[corbellaw23_speaks_i12_6_j0_a k], [corbellaw23_speaks_i12_6_l1_a k], [corbellaw23_speaks_i12_6_j2_a k], [corbellaw23_speaks_i12_6_l3_a k], [corbellaw23_speaks_i12_6_j4_a k], [corbellaw23_speaks_i12_6_j5_a k]]
noncomputable def corbellaw23_speaks_i12_6_b : List Ob := obs (bodyOf Try.f12) corbellaw23_speaks_i12_6_h
def corbellaw23_speaks_i37_9_h : Hint := .no
def corbellaw23_speaks_i37_9_O {R : Type} (k : Nat) : CutK R := cutsO []
def corbellaw23_speaks_i37_10_h : Hint := .no
def corbellaw23_speaks_i37_10_O {R : Type} (k : Nat) : CutK R := cutsO []
def corbellaw23_speaks_i13_9_h : Hint := .no
def corbellaw23_speaks_i13_9_O {R : Type} (k : Nat) : CutK R := cutsO []
def corbellaw23_speaks_i13_8_h : Hint := .no
def corbellaw23_speaks_i13_8_O {R : Type} (k : Nat) : CutK R := cutsO []
noncomputable def corbellaw23_speaks_I {R : Type} (k : Nat) : InlT R := icons 8 0 (corbellaw23_speaks_i8_0_h, Try.f8, deepO 0 (corbellaw23_speaks_i8_0_O k)) <| icons 10 5 (corbellaw23_speaks_i10_5_h, Try.f10, deepO 1 (corbellaw23_speaks_i10_5_O k)) <| icons 33 5 (corbellaw23_speaks_i33_5_h, Try.f33, deepO 0 (corbellaw23_speaks_i33_5_O k)) <| icons 10 6 (corbellaw23_speaks_i10_6_h, Try.f10, deepO 1 (corbellaw23_speaks_i10_6_O k)) <| icons 33 6 (corbellaw23_speaks_i33_6_h, Try.f33, deepO 0 (corbellaw23_speaks_i33_6_O k)) <| icons 12 6 (corbellaw23_speaks_i12_6_h, Try.f12, deepO 1 (corbellaw23_speaks_i12_6_O k)) <| icons 37 9 (corbellaw23_speaks_i37_9_h, Try.f37, deepO 0 (corbellaw23_speaks_i37_9_O k)) <| icons 37 10 (corbellaw23_speaks_i37_10_h, Try.f37, deepO 0 (corbellaw23_speaks_i37_10_O k)) <| icons 13 9 (corbellaw23_speaks_i13_9_h, Try.f13, deepO 0 (corbellaw23_speaks_i13_9_O k)) <| icons 13 8 (corbellaw23_speaks_i13_8_h, Try.f13, deepO 0 (corbellaw23_speaks_i13_8_O k)) <| inone
theorem corbellaw23_speaks_j0_eq {R : Type} (k : Nat) (K : EX → St → Option R) (n_6941 : Int) (ok_6942 : Bool) (hN_6943 : Bool) (h_6944 : List ByteArray) (hN_6945 : Bool) (h_6946 : List ByteArray) (hN_6947 : Bool) (h_6948 : List Int) (hN_6949 : Bool) (h_6950 : List Int) (hN_6951 : Bool) (h_6952 : List (Int × ByteArray)) (h_6953 : ByteArray) (jN_6954 : Bool) (j_6955 : List ByteArray) (jN_6956 : Bool) (j_6957 : List (Int × ByteArray)) : corbellaw23_speaks_j0 (corbellaw23_speaks_j0_E0 K) k n_6941 ok_6942 j_6957 = ev tab (corbellaw23_speaks_F k) (inlK tab (corbellaw23_speaks_F k) (corbellaw23_speaks_I k) 2) (corbellaw23_speaks_O k) (obB corbellaw23_speaks_b 0) (obH corbellaw23_speaks_b 0) (corbellaw23_speaks_j0_S n_6941 ok_6942 hN_6943 h_6944 hN_6945 h_6946 hN_6947 h_6948 hN_6949 h_6950 hN_6951 h_6952 h_6953 jN_6954 j_6955 jN_6956 j_6957) (fun e st => optb (clean corbellaw23_speaks_x0 st) fun st => K e st) := by kernel_rfl
theorem corbellaw23_speaks_j0b_eq {R : Type} (k : Nat) (K : EX → St → Option R) (n_6974 : Int) (ok_6975 : Bool) (hN_6976 : Bool) (h_6977 : List ByteArray) (hN_6978 : Bool) (h_6979 : List ByteArray) (hN_6980 : Bool) (h_6981 : List Int) (hN_6982 : Bool) (h_6983 : List Int) (jN_6984 : Bool) (j_6985 : List (Int × ByteArray)) (h_6986 : ByteArray) (hN_6987 : Bool) (h_6988 : List ByteArray) : corbellaw23_speaks_j0b (corbellaw23_speaks_j0b_E0 K) k n_6974 ok_6975 j_6985 = ev tab (corbellaw23_speaks_F k) (inlK tab (corbellaw23_speaks_F k) (corbellaw23_speaks_I k) 2) (corbellaw23_speaks_O k) (obB corbellaw23_speaks_b 0) (obH corbellaw23_speaks_b 0) (corbellaw23_speaks_j0b_S n_6974 ok_6975 hN_6976 h_6977 hN_6978 h_6979 hN_6980 h_6981 hN_6982 h_6983 jN_6984 j_6985 h_6986 hN_6987 h_6988) (fun e st => optb (clean corbellaw23_speaks_x0 st) fun st => K e st) := by kernel_rfl
theorem corbellaw23_speaks_j0_ok {R : Type} (k : Nat)  : ObOK (R := R) tab (corbellaw23_speaks_F k) (inlK tab (corbellaw23_speaks_F k) (corbellaw23_speaks_I k) 2) (corbellaw23_speaks_O k) (.join corbellaw23_speaks_c0 corbellaw23_speaks_x0 0 (obB corbellaw23_speaks_b 0) (obH corbellaw23_speaks_b 0)) :=
  join_ok (l := [corbellaw23_speaks_j0_a k, corbellaw23_speaks_j0b_a k]) (by kernel_rfl) ⟨(fun K x => (corbellaw23_speaks_j0_eq k K x.1.2.1 x.1.2.2.1 x.2.1.1 x.2.1.2 x.2.2.1.1 x.2.2.1.2 x.2.2.2.2.1.1 x.2.2.2.2.1.2 x.2.2.2.2.2.1.1 x.2.2.2.2.2.1.2 x.2.2.2.2.2.2.1.1 x.2.2.2.2.2.2.1.2 x.2.2.2.2.2.2.2.1.1 x.2.2.2.2.2.2.2.2.1.1 x.2.2.2.2.2.2.2.2.1.2 x.2.2.2.2.2.2.2.2.2.1.1 x.2.2.2.2.2.2.2.2.2.1.2).trans (by kernel_rfl)), (fun K x => (corbellaw23_speaks_j0b_eq k K x.1.2.1 x.1.2.2.1 x.2.1.1 x.2.1.2 x.2.2.1.1 x.2.2.1.2 x.2.2.2.2.1.1 x.2.2.2.2.1.2 x.2.2.2.2.2.1.1 x.2.2.2.2.2.1.2 x.2.2.2.2.2.2.1.1 x.2.2.2.2.2.2.1.2 x.2.2.2.2.2.2.2.1.1 x.2.2.2.2.2.2.2.2.1.1 x.2.2.2.2.2.2.2.2.1.2).trans (by kernel_rfl)), trivial⟩
theorem corbellaw23_speaks_cuts {R : Type} (k : Nat) : ∀ c, Try.f7.body = some c → CutsOK (R := R) tab (corbellaw23_speaks_F k) (inlK tab (corbellaw23_speaks_F k) (corbellaw23_speaks_I k) 2) (corbellaw23_speaks_O k) c corbellaw23_speaks_h :=
  cuts_of (l := [.join corbellaw23_speaks_c0 corbellaw23_speaks_x0 0 (obB corbellaw23_speaks_b 0) (obH corbellaw23_speaks_b 0)]) (by kernel_rfl) ⟨corbellaw23_speaks_j0_ok k, trivial⟩
theorem corbellaw23_speaks_i10_5_l0_eq {R : Type} (k : Nat) (d : Nat) (K : EX → St → Option R) (hN_6525 : Bool) (h_6526 : List ByteArray) (hN_6527 : Bool) (h_6528 : List ByteArray) (hN_6529 : Bool) (h_6530 : List Int) (hN_6531 : Bool) (h_6532 : List Int) (jN_6533 : Bool) : ∀ (j : Nat) (block_6523 : Int) (data_6524 : ByteArray) (j_6534 : List (Int × ByteArray)), corbellaw23_speaks_i10_5_l0 (fun y9 => corbellaw23_speaks_i10_5_l0_E0 K hN_6525 h_6526 hN_6527 h_6528 hN_6529 h_6530 hN_6531 h_6532 jN_6533 y9) k j block_6523 data_6524 j_6534 = iter corbellaw23_speaks_i10_5_c0 corbellaw23_speaks_i10_5_x0 (ev tab (corbellaw23_speaks_F k) (inlK tab (corbellaw23_speaks_F k) (corbellaw23_speaks_I k) (d + 1)) (deepO 1 (corbellaw23_speaks_i10_5_O k) (d + 1)) (obB corbellaw23_speaks_i10_5_b 0) (obH corbellaw23_speaks_i10_5_b 0)) j (corbellaw23_speaks_i10_5_l0_S block_6523 data_6524 hN_6525 h_6526 hN_6527 h_6528 hN_6529 h_6530 hN_6531 h_6532 jN_6533 j_6534) K
  | 0, _, _, _ => rfl
  | j + 1, block_6523, data_6524, j_6534 => by
    have e : corbellaw23_speaks_i10_5_l0 (fun y9 => corbellaw23_speaks_i10_5_l0_E0 K hN_6525 h_6526 hN_6527 h_6528 hN_6529 h_6530 hN_6531 h_6532 jN_6533 y9) k j = fun block_6523 data_6524 j_6534 => iter corbellaw23_speaks_i10_5_c0 corbellaw23_speaks_i10_5_x0 (ev tab (corbellaw23_speaks_F k) (inlK tab (corbellaw23_speaks_F k) (corbellaw23_speaks_I k) (d + 1)) (deepO 1 (corbellaw23_speaks_i10_5_O k) (d + 1)) (obB corbellaw23_speaks_i10_5_b 0) (obH corbellaw23_speaks_i10_5_b 0)) j (corbellaw23_speaks_i10_5_l0_S block_6523 data_6524 hN_6525 h_6526 hN_6527 h_6528 hN_6529 h_6530 hN_6531 h_6532 jN_6533 j_6534) K := by funext block_6523 data_6524 j_6534; exact corbellaw23_speaks_i10_5_l0_eq k d K hN_6525 h_6526 hN_6527 h_6528 hN_6529 h_6530 hN_6531 h_6532 jN_6533 j block_6523 data_6524 j_6534
    show corbellaw23_speaks_i10_5_l0s (corbellaw23_speaks_i10_5_l0 (fun y9 => corbellaw23_speaks_i10_5_l0_E0 K hN_6525 h_6526 hN_6527 h_6528 hN_6529 h_6530 hN_6531 h_6532 jN_6533 y9) k j) (fun y9 => corbellaw23_speaks_i10_5_l0_E0 K hN_6525 h_6526 hN_6527 h_6528 hN_6529 h_6530 hN_6531 h_6532 jN_6533 y9) k block_6523 data_6524 j_6534 = _
    rw [e, iter_succ]; kernel_rfl
theorem corbellaw23_speaks_i10_5_l0_ok {R : Type} (k : Nat) (d : Nat)  : ObOK (R := R) tab (corbellaw23_speaks_F k) (inlK tab (corbellaw23_speaks_F k) (corbellaw23_speaks_I k) d) (deepO 1 (corbellaw23_speaks_i10_5_O k) d) (.loop corbellaw23_speaks_i10_5_c0 corbellaw23_speaks_i10_5_x0 0 (obB corbellaw23_speaks_i10_5_b 0) (obH corbellaw23_speaks_i10_5_b 0)) :=
  deep_ob fun hd => by
    obtain ⟨d, rfl⟩ := Nat.exists_eq_add_of_le' hd
    exact loop_ok (l := [corbellaw23_speaks_i10_5_l0_a k]) (by kernel_rfl) ⟨(fun K x => ⟨k, (corbellaw23_speaks_i10_5_l0_eq k d K x.2.1.1 x.2.1.2 x.2.2.1.1 x.2.2.1.2 x.2.2.2.2.1.1 x.2.2.2.2.1.2 x.2.2.2.2.2.1.1 x.2.2.2.2.2.1.2 x.2.2.2.2.2.2.1.1 k x.1.2.1 x.1.2.2.1 x.2.2.2.2.2.2.1.2).trans (by kernel_rfl)⟩), trivial⟩
theorem corbellaw23_speaks_i10_5_cuts {R : Type} (k : Nat) : ∀ (d : Nat), ∀ c, Try.f10.body = some c → CutsOK (R := R) tab (corbellaw23_speaks_F k) (inlK tab (corbellaw23_speaks_F k) (corbellaw23_speaks_I k) d) (deepO 1 (corbellaw23_speaks_i10_5_O k) d) c corbellaw23_speaks_i10_5_h :=
  fun d => cuts_of (l := [.loop corbellaw23_speaks_i10_5_c0 corbellaw23_speaks_i10_5_x0 0 (obB corbellaw23_speaks_i10_5_b 0) (obH corbellaw23_speaks_i10_5_b 0)]) (by kernel_rfl) ⟨corbellaw23_speaks_i10_5_l0_ok k d, trivial⟩
theorem corbellaw23_speaks_i33_5_j0_eq {R : Type} (k : Nat) (d : Nat) (K : EX → St → Option R) (v_6506 : Bool) (hN_6507 : Bool) (h_6508 : List ByteArray) (hN_6509 : Bool) (h_6510 : List ByteArray) (hN_6511 : Bool) (h_6512 : List Int) (hN_6513 : Bool) (h_6514 : List Int) : corbellaw23_speaks_i33_5_j0 (corbellaw23_speaks_i33_5_j0_E0 K hN_6507 h_6508 hN_6509 h_6510 hN_6511 h_6512 hN_6513 h_6514) k v_6506 = ev tab (corbellaw23_speaks_F k) (inlK tab (corbellaw23_speaks_F k) (corbellaw23_speaks_I k) (d + 0)) (deepO 0 (corbellaw23_speaks_i33_5_O k) (d + 0)) (obB corbellaw23_speaks_i33_5_b 0) (obH corbellaw23_speaks_i33_5_b 0) (corbellaw23_speaks_i33_5_j0_S v_6506 hN_6507 h_6508 hN_6509 h_6510 hN_6511 h_6512 hN_6513 h_6514) (fun e st => optb (clean corbellaw23_speaks_i33_5_x0 st) fun st => K e st) := by kernel_rfl
theorem corbellaw23_speaks_i33_5_j0_ok {R : Type} (k : Nat) (d : Nat)  : ObOK (R := R) tab (corbellaw23_speaks_F k) (inlK tab (corbellaw23_speaks_F k) (corbellaw23_speaks_I k) d) (deepO 0 (corbellaw23_speaks_i33_5_O k) d) (.join corbellaw23_speaks_i33_5_c0 corbellaw23_speaks_i33_5_x0 0 (obB corbellaw23_speaks_i33_5_b 0) (obH corbellaw23_speaks_i33_5_b 0)) :=
  deep_ob fun hd => by
    obtain ⟨d, rfl⟩ := Nat.exists_eq_add_of_le' hd
    exact join_ok (l := [corbellaw23_speaks_i33_5_j0_a k]) (by kernel_rfl) ⟨(fun K x => (corbellaw23_speaks_i33_5_j0_eq k d K x.1.1 x.2.1.1 x.2.1.2 x.2.2.1.1 x.2.2.1.2 x.2.2.2.2.1.1 x.2.2.2.2.1.2 x.2.2.2.2.2.1.1 x.2.2.2.2.2.1.2).trans (by kernel_rfl)), trivial⟩
theorem corbellaw23_speaks_i33_5_cuts {R : Type} (k : Nat) : ∀ (d : Nat), ∀ c, Try.f33.body = some c → CutsOK (R := R) tab (corbellaw23_speaks_F k) (inlK tab (corbellaw23_speaks_F k) (corbellaw23_speaks_I k) d) (deepO 0 (corbellaw23_speaks_i33_5_O k) d) c corbellaw23_speaks_i33_5_h :=
  fun d => cuts_of (l := [.join corbellaw23_speaks_i33_5_c0 corbellaw23_speaks_i33_5_x0 0 (obB corbellaw23_speaks_i33_5_b 0) (obH corbellaw23_speaks_i33_5_b 0)]) (by kernel_rfl) ⟨corbellaw23_speaks_i33_5_j0_ok k d, trivial⟩
theorem corbellaw23_speaks_i10_6_l0_eq {R : Type} (k : Nat) (d : Nat) (K : EX → St → Option R) (hN_6588 : Bool) (h_6589 : List ByteArray) (hN_6590 : Bool) (h_6591 : List ByteArray) (hN_6592 : Bool) (h_6593 : List Int) (hN_6594 : Bool) (h_6595 : List Int) (jN_6596 : Bool) : ∀ (j : Nat) (block_6586 : Int) (data_6587 : ByteArray) (j_6597 : List (Int × ByteArray)), corbellaw23_speaks_i10_6_l0 (fun y9 => corbellaw23_speaks_i10_6_l0_E0 K hN_6588 h_6589 hN_6590 h_6591 hN_6592 h_6593 hN_6594 h_6595 jN_6596 y9) k j block_6586 data_6587 j_6597 = iter corbellaw23_speaks_i10_6_c0 corbellaw23_speaks_i10_6_x0 (ev tab (corbellaw23_speaks_F k) (inlK tab (corbellaw23_speaks_F k) (corbellaw23_speaks_I k) (d + 1)) (deepO 1 (corbellaw23_speaks_i10_6_O k) (d + 1)) (obB corbellaw23_speaks_i10_6_b 0) (obH corbellaw23_speaks_i10_6_b 0)) j (corbellaw23_speaks_i10_6_l0_S block_6586 data_6587 hN_6588 h_6589 hN_6590 h_6591 hN_6592 h_6593 hN_6594 h_6595 jN_6596 j_6597) K
  | 0, _, _, _ => rfl
  | j + 1, block_6586, data_6587, j_6597 => by
    have e : corbellaw23_speaks_i10_6_l0 (fun y9 => corbellaw23_speaks_i10_6_l0_E0 K hN_6588 h_6589 hN_6590 h_6591 hN_6592 h_6593 hN_6594 h_6595 jN_6596 y9) k j = fun block_6586 data_6587 j_6597 => iter corbellaw23_speaks_i10_6_c0 corbellaw23_speaks_i10_6_x0 (ev tab (corbellaw23_speaks_F k) (inlK tab (corbellaw23_speaks_F k) (corbellaw23_speaks_I k) (d + 1)) (deepO 1 (corbellaw23_speaks_i10_6_O k) (d + 1)) (obB corbellaw23_speaks_i10_6_b 0) (obH corbellaw23_speaks_i10_6_b 0)) j (corbellaw23_speaks_i10_6_l0_S block_6586 data_6587 hN_6588 h_6589 hN_6590 h_6591 hN_6592 h_6593 hN_6594 h_6595 jN_6596 j_6597) K := by funext block_6586 data_6587 j_6597; exact corbellaw23_speaks_i10_6_l0_eq k d K hN_6588 h_6589 hN_6590 h_6591 hN_6592 h_6593 hN_6594 h_6595 jN_6596 j block_6586 data_6587 j_6597
    show corbellaw23_speaks_i10_6_l0s (corbellaw23_speaks_i10_6_l0 (fun y9 => corbellaw23_speaks_i10_6_l0_E0 K hN_6588 h_6589 hN_6590 h_6591 hN_6592 h_6593 hN_6594 h_6595 jN_6596 y9) k j) (fun y9 => corbellaw23_speaks_i10_6_l0_E0 K hN_6588 h_6589 hN_6590 h_6591 hN_6592 h_6593 hN_6594 h_6595 jN_6596 y9) k block_6586 data_6587 j_6597 = _
    rw [e, iter_succ]; kernel_rfl
theorem corbellaw23_speaks_i10_6_l0b_eq {R : Type} (k : Nat) (d : Nat) (K : EX → St → Option R) (hN_6651 : Bool) (h_6652 : List ByteArray) (hN_6653 : Bool) (h_6654 : List ByteArray) (hN_6655 : Bool) (h_6656 : List Int) (hN_6657 : Bool) (h_6658 : List Int) (jN_6659 : Bool) : ∀ (j : Nat) (block_6649 : Int) (data_6650 : ByteArray) (j_6660 : List (Int × ByteArray)), corbellaw23_speaks_i10_6_l0b (fun y9 => corbellaw23_speaks_i10_6_l0b_E0 K hN_6651 h_6652 hN_6653 h_6654 hN_6655 h_6656 hN_6657 h_6658 jN_6659 y9) k j block_6649 data_6650 j_6660 = iter corbellaw23_speaks_i10_6_c0 corbellaw23_speaks_i10_6_x0 (ev tab (corbellaw23_speaks_F k) (inlK tab (corbellaw23_speaks_F k) (corbellaw23_speaks_I k) (d + 1)) (deepO 1 (corbellaw23_speaks_i10_6_O k) (d + 1)) (obB corbellaw23_speaks_i10_6_b 0) (obH corbellaw23_speaks_i10_6_b 0)) j (corbellaw23_speaks_i10_6_l0b_S block_6649 data_6650 hN_6651 h_6652 hN_6653 h_6654 hN_6655 h_6656 hN_6657 h_6658 jN_6659 j_6660) K
  | 0, _, _, _ => rfl
  | j + 1, block_6649, data_6650, j_6660 => by
    have e : corbellaw23_speaks_i10_6_l0b (fun y9 => corbellaw23_speaks_i10_6_l0b_E0 K hN_6651 h_6652 hN_6653 h_6654 hN_6655 h_6656 hN_6657 h_6658 jN_6659 y9) k j = fun block_6649 data_6650 j_6660 => iter corbellaw23_speaks_i10_6_c0 corbellaw23_speaks_i10_6_x0 (ev tab (corbellaw23_speaks_F k) (inlK tab (corbellaw23_speaks_F k) (corbellaw23_speaks_I k) (d + 1)) (deepO 1 (corbellaw23_speaks_i10_6_O k) (d + 1)) (obB corbellaw23_speaks_i10_6_b 0) (obH corbellaw23_speaks_i10_6_b 0)) j (corbellaw23_speaks_i10_6_l0b_S block_6649 data_6650 hN_6651 h_6652 hN_6653 h_6654 hN_6655 h_6656 hN_6657 h_6658 jN_6659 j_6660) K := by funext block_6649 data_6650 j_6660; exact corbellaw23_speaks_i10_6_l0b_eq k d K hN_6651 h_6652 hN_6653 h_6654 hN_6655 h_6656 hN_6657 h_6658 jN_6659 j block_6649 data_6650 j_6660
    show corbellaw23_speaks_i10_6_l0bs (corbellaw23_speaks_i10_6_l0b (fun y9 => corbellaw23_speaks_i10_6_l0b_E0 K hN_6651 h_6652 hN_6653 h_6654 hN_6655 h_6656 hN_6657 h_6658 jN_6659 y9) k j) (fun y9 => corbellaw23_speaks_i10_6_l0b_E0 K hN_6651 h_6652 hN_6653 h_6654 hN_6655 h_6656 hN_6657 h_6658 jN_6659 y9) k block_6649 data_6650 j_6660 = _
    rw [e, iter_succ]; kernel_rfl
theorem corbellaw23_speaks_i10_6_l0_ok {R : Type} (k : Nat) (d : Nat)  : ObOK (R := R) tab (corbellaw23_speaks_F k) (inlK tab (corbellaw23_speaks_F k) (corbellaw23_speaks_I k) d) (deepO 1 (corbellaw23_speaks_i10_6_O k) d) (.loop corbellaw23_speaks_i10_6_c0 corbellaw23_speaks_i10_6_x0 0 (obB corbellaw23_speaks_i10_6_b 0) (obH corbellaw23_speaks_i10_6_b 0)) :=
  deep_ob fun hd => by
    obtain ⟨d, rfl⟩ := Nat.exists_eq_add_of_le' hd
    exact loop_ok (l := [corbellaw23_speaks_i10_6_l0_a k, corbellaw23_speaks_i10_6_l0b_a k]) (by kernel_rfl) ⟨(fun K x => ⟨k, (corbellaw23_speaks_i10_6_l0_eq k d K x.2.1.1 x.2.1.2 x.2.2.1.1 x.2.2.1.2 x.2.2.2.2.1.1 x.2.2.2.2.1.2 x.2.2.2.2.2.1.1 x.2.2.2.2.2.1.2 x.2.2.2.2.2.2.1.1 k x.1.2.1 x.1.2.2.1 x.2.2.2.2.2.2.1.2).trans (by kernel_rfl)⟩), (fun K x => ⟨k, (corbellaw23_speaks_i10_6_l0b_eq k d K x.2.1.1 x.2.1.2 x.2.2.1.1 x.2.2.1.2 x.2.2.2.2.1.1 x.2.2.2.2.1.2 x.2.2.2.2.2.1.1 x.2.2.2.2.2.1.2 x.2.2.2.2.2.2.1.1 k x.1.2.1 x.1.2.2.1 x.2.2.2.2.2.2.1.2).trans (by kernel_rfl)⟩), trivial⟩
theorem corbellaw23_speaks_i10_6_cuts {R : Type} (k : Nat) : ∀ (d : Nat), ∀ c, Try.f10.body = some c → CutsOK (R := R) tab (corbellaw23_speaks_F k) (inlK tab (corbellaw23_speaks_F k) (corbellaw23_speaks_I k) d) (deepO 1 (corbellaw23_speaks_i10_6_O k) d) c corbellaw23_speaks_i10_6_h :=
  fun d => cuts_of (l := [.loop corbellaw23_speaks_i10_6_c0 corbellaw23_speaks_i10_6_x0 0 (obB corbellaw23_speaks_i10_6_b 0) (obH corbellaw23_speaks_i10_6_b 0)]) (by kernel_rfl) ⟨corbellaw23_speaks_i10_6_l0_ok k d, trivial⟩
theorem corbellaw23_speaks_i33_6_j0_eq {R : Type} (k : Nat) (d : Nat) (K : EX → St → Option R) (v_6565 : Bool) (hN_6566 : Bool) (h_6567 : List ByteArray) (hN_6568 : Bool) (h_6569 : List ByteArray) (hN_6570 : Bool) (h_6571 : List Int) (hN_6572 : Bool) (h_6573 : List Int) (hN_6574 : Bool) (h_6575 : List (Int × ByteArray)) : corbellaw23_speaks_i33_6_j0 (corbellaw23_speaks_i33_6_j0_E0 K hN_6566 h_6567 hN_6568 h_6569 hN_6570 h_6571 hN_6572 h_6573 hN_6574 h_6575) k v_6565 = ev tab (corbellaw23_speaks_F k) (inlK tab (corbellaw23_speaks_F k) (corbellaw23_speaks_I k) (d + 0)) (deepO 0 (corbellaw23_speaks_i33_6_O k) (d + 0)) (obB corbellaw23_speaks_i33_6_b 0) (obH corbellaw23_speaks_i33_6_b 0) (corbellaw23_speaks_i33_6_j0_S v_6565 hN_6566 h_6567 hN_6568 h_6569 hN_6570 h_6571 hN_6572 h_6573 hN_6574 h_6575) (fun e st => optb (clean corbellaw23_speaks_i33_6_x0 st) fun st => K e st) := by kernel_rfl
theorem corbellaw23_speaks_i33_6_j0b_eq {R : Type} (k : Nat) (d : Nat) (K : EX → St → Option R) (v_6628 : Bool) (hN_6629 : Bool) (h_6630 : List ByteArray) (hN_6631 : Bool) (h_6632 : List ByteArray) (hN_6633 : Bool) (h_6634 : List Int) (hN_6635 : Bool) (h_6636 : List Int) (hN_6637 : Bool) (h_6638 : List (Int × ByteArray)) : corbellaw23_speaks_i33_6_j0b (corbellaw23_speaks_i33_6_j0b_E0 K hN_6629 h_6630 hN_6631 h_6632 hN_6633 h_6634 hN_6635 h_6636 hN_6637 h_6638) k v_6628 = ev tab (corbellaw23_speaks_F k) (inlK tab (corbellaw23_speaks_F k) (corbellaw23_speaks_I k) (d + 0)) (deepO 0 (corbellaw23_speaks_i33_6_O k) (d + 0)) (obB corbellaw23_speaks_i33_6_b 0) (obH corbellaw23_speaks_i33_6_b 0) (corbellaw23_speaks_i33_6_j0b_S v_6628 hN_6629 h_6630 hN_6631 h_6632 hN_6633 h_6634 hN_6635 h_6636 hN_6637 h_6638) (fun e st => optb (clean corbellaw23_speaks_i33_6_x0 st) fun st => K e st) := by kernel_rfl
theorem corbellaw23_speaks_i33_6_j0_ok {R : Type} (k : Nat) (d : Nat)  : ObOK (R := R) tab (corbellaw23_speaks_F k) (inlK tab (corbellaw23_speaks_F k) (corbellaw23_speaks_I k) d) (deepO 0 (corbellaw23_speaks_i33_6_O k) d) (.join corbellaw23_speaks_i33_6_c0 corbellaw23_speaks_i33_6_x0 0 (obB corbellaw23_speaks_i33_6_b 0) (obH corbellaw23_speaks_i33_6_b 0)) :=
  deep_ob fun hd => by
    obtain ⟨d, rfl⟩ := Nat.exists_eq_add_of_le' hd
    exact join_ok (l := [corbellaw23_speaks_i33_6_j0_a k, corbellaw23_speaks_i33_6_j0b_a k]) (by kernel_rfl) ⟨(fun K x => (corbellaw23_speaks_i33_6_j0_eq k d K x.1.1 x.2.1.1 x.2.1.2 x.2.2.1.1 x.2.2.1.2 x.2.2.2.2.1.1 x.2.2.2.2.1.2 x.2.2.2.2.2.1.1 x.2.2.2.2.2.1.2 x.2.2.2.2.2.2.1.1 x.2.2.2.2.2.2.1.2).trans (by kernel_rfl)), (fun K x => (corbellaw23_speaks_i33_6_j0b_eq k d K x.1.1 x.2.1.1 x.2.1.2 x.2.2.1.1 x.2.2.1.2 x.2.2.2.2.1.1 x.2.2.2.2.1.2 x.2.2.2.2.2.1.1 x.2.2.2.2.2.1.2 x.2.2.2.2.2.2.1.1 x.2.2.2.2.2.2.1.2).trans (by kernel_rfl)), trivial⟩
theorem corbellaw23_speaks_i33_6_cuts {R : Type} (k : Nat) : ∀ (d : Nat), ∀ c, Try.f33.body = some c → CutsOK (R := R) tab (corbellaw23_speaks_F k) (inlK tab (corbellaw23_speaks_F k) (corbellaw23_speaks_I k) d) (deepO 0 (corbellaw23_speaks_i33_6_O k) d) c corbellaw23_speaks_i33_6_h :=
  fun d => cuts_of (l := [.join corbellaw23_speaks_i33_6_c0 corbellaw23_speaks_i33_6_x0 0 (obB corbellaw23_speaks_i33_6_b 0) (obH corbellaw23_speaks_i33_6_b 0)]) (by kernel_rfl) ⟨corbellaw23_speaks_i33_6_j0_ok k d, trivial⟩
theorem corbellaw23_speaks_i12_6_j0_eq {R : Type} (k : Nat) (d : Nat) (K : EX → St → Option R) (hN_6685 : Bool) (h_6686 : List ByteArray) (hN_6687 : Bool) (h_6688 : List ByteArray) (hN_6689 : Bool) (h_6690 : List Int) (hN_6691 : Bool) (h_6692 : List Int) (jN_6693 : Bool) (j_6694 : List (Int × ByteArray)) (all_6695 : ByteArray) (hN_6696 : Bool) (h_6697 : List ByteArray) : corbellaw23_speaks_i12_6_j0 (fun y0 y1 y14 => corbellaw23_speaks_i12_6_j0_E0 K y0 y1 hN_6685 h_6686 hN_6687 h_6688 hN_6689 h_6690 hN_6691 h_6692 jN_6693 j_6694 all_6695 hN_6696 y14) (fun y0 y1 y14 => corbellaw23_speaks_i12_6_j0_E1 K y0 y1 hN_6685 h_6686 hN_6687 h_6688 hN_6689 h_6690 hN_6691 h_6692 jN_6693 j_6694 all_6695 hN_6696 y14) k j_6694 all_6695 h_6697 = ev tab (corbellaw23_speaks_F k) (inlK tab (corbellaw23_speaks_F k) (corbellaw23_speaks_I k) (d + 1)) (deepO 1 (corbellaw23_speaks_i12_6_O k) (d + 1)) (obB corbellaw23_speaks_i12_6_b 0) (obH corbellaw23_speaks_i12_6_b 0) (corbellaw23_speaks_i12_6_j0_S hN_6685 h_6686 hN_6687 h_6688 hN_6689 h_6690 hN_6691 h_6692 jN_6693 j_6694 all_6695 hN_6696 h_6697) (fun e st => optb (clean corbellaw23_speaks_i12_6_x0 st) fun st => K e st) := by kernel_rfl
theorem corbellaw23_speaks_i12_6_j0_ok {R : Type} (k : Nat) (d : Nat)  : ObOK (R := R) tab (corbellaw23_speaks_F k) (inlK tab (corbellaw23_speaks_F k) (corbellaw23_speaks_I k) d) (deepO 1 (corbellaw23_speaks_i12_6_O k) d) (.join corbellaw23_speaks_i12_6_c0 corbellaw23_speaks_i12_6_x0 0 (obB corbellaw23_speaks_i12_6_b 0) (obH corbellaw23_speaks_i12_6_b 0)) :=
  deep_ob fun hd => by
    obtain ⟨d, rfl⟩ := Nat.exists_eq_add_of_le' hd
    exact join_ok (l := [corbellaw23_speaks_i12_6_j0_a k]) (by kernel_rfl) ⟨(fun K x => (corbellaw23_speaks_i12_6_j0_eq k d K x.2.1.1 x.2.1.2 x.2.2.1.1 x.2.2.1.2 x.2.2.2.2.1.1 x.2.2.2.2.1.2 x.2.2.2.2.2.1.1 x.2.2.2.2.2.1.2 x.2.2.2.2.2.2.1.1 x.2.2.2.2.2.2.1.2 x.2.2.2.2.2.2.2.1.1 x.2.2.2.2.2.2.2.2.1.1 x.2.2.2.2.2.2.2.2.1.2).trans (by kernel_rfl)), trivial⟩
theorem corbellaw23_speaks_i12_6_l1_eq {R : Type} (k : Nat) (d : Nat) (K : EX → St → Option R) (v_6699 : Int) (hN_6701 : Bool) (h_6702 : List ByteArray) (hN_6703 : Bool) (h_6704 : List ByteArray) (hN_6705 : Bool) (h_6706 : List Int) (hN_6707 : Bool) (h_6708 : List Int) (jN_6709 : Bool) (j_6710 : List (Int × ByteArray)) (h_6711 : ByteArray) (hN_6712 : Bool) (h_6713 : List ByteArray) : ∀ (j : Nat) (wrong_6698 : Int) (v_6700 : Int), corbellaw23_speaks_i12_6_l1 (fun y0 => corbellaw23_speaks_i12_6_l1_E0 K y0 hN_6701 h_6702 hN_6703 h_6704 hN_6705 h_6706 hN_6707 h_6708 jN_6709 j_6710 h_6711 hN_6712 h_6713) k v_6699 h_6711 h_6713 j wrong_6698 v_6700 = iter corbellaw23_speaks_i12_6_c1 corbellaw23_speaks_i12_6_x1 (ev tab (corbellaw23_speaks_F k) (inlK tab (corbellaw23_speaks_F k) (corbellaw23_speaks_I k) (d + 1)) (deepO 1 (corbellaw23_speaks_i12_6_O k) (d + 1)) (obB corbellaw23_speaks_i12_6_b 1) (obH corbellaw23_speaks_i12_6_b 1)) j (corbellaw23_speaks_i12_6_l1_S wrong_6698 v_6699 v_6700 hN_6701 h_6702 hN_6703 h_6704 hN_6705 h_6706 hN_6707 h_6708 jN_6709 j_6710 h_6711 hN_6712 h_6713) K
  | 0, _, _ => rfl
  | j + 1, wrong_6698, v_6700 => by
    have e : corbellaw23_speaks_i12_6_l1 (fun y0 => corbellaw23_speaks_i12_6_l1_E0 K y0 hN_6701 h_6702 hN_6703 h_6704 hN_6705 h_6706 hN_6707 h_6708 jN_6709 j_6710 h_6711 hN_6712 h_6713) k v_6699 h_6711 h_6713 j = fun wrong_6698 v_6700 => iter corbellaw23_speaks_i12_6_c1 corbellaw23_speaks_i12_6_x1 (ev tab (corbellaw23_speaks_F k) (inlK tab (corbellaw23_speaks_F k) (corbellaw23_speaks_I k) (d + 1)) (deepO 1 (corbellaw23_speaks_i12_6_O k) (d + 1)) (obB corbellaw23_speaks_i12_6_b 1) (obH corbellaw23_speaks_i12_6_b 1)) j (corbellaw23_speaks_i12_6_l1_S wrong_6698 v_6699 v_6700 hN_6701 h_6702 hN_6703 h_6704 hN_6705 h_6706 hN_6707 h_6708 jN_6709 j_6710 h_6711 hN_6712 h_6713) K := by funext wrong_6698 v_6700; exact corbellaw23_speaks_i12_6_l1_eq k d K v_6699 hN_6701 h_6702 hN_6703 h_6704 hN_6705 h_6706 hN_6707 h_6708 jN_6709 j_6710 h_6711 hN_6712 h_6713 j wrong_6698 v_6700
    show corbellaw23_speaks_i12_6_l1s (corbellaw23_speaks_i12_6_l1 (fun y0 => corbellaw23_speaks_i12_6_l1_E0 K y0 hN_6701 h_6702 hN_6703 h_6704 hN_6705 h_6706 hN_6707 h_6708 jN_6709 j_6710 h_6711 hN_6712 h_6713) k v_6699 h_6711 h_6713 j) (fun y0 => corbellaw23_speaks_i12_6_l1_E0 K y0 hN_6701 h_6702 hN_6703 h_6704 hN_6705 h_6706 hN_6707 h_6708 jN_6709 j_6710 h_6711 hN_6712 h_6713) k v_6699 h_6711 h_6713 wrong_6698 v_6700 = _
    rw [e, iter_succ]; kernel_rfl
theorem corbellaw23_speaks_i12_6_l1_ok {R : Type} (k : Nat) (d : Nat)  : ObOK (R := R) tab (corbellaw23_speaks_F k) (inlK tab (corbellaw23_speaks_F k) (corbellaw23_speaks_I k) d) (deepO 1 (corbellaw23_speaks_i12_6_O k) d) (.loop corbellaw23_speaks_i12_6_c1 corbellaw23_speaks_i12_6_x1 1 (obB corbellaw23_speaks_i12_6_b 1) (obH corbellaw23_speaks_i12_6_b 1)) :=
  deep_ob fun hd => by
    obtain ⟨d, rfl⟩ := Nat.exists_eq_add_of_le' hd
    exact loop_ok (l := [corbellaw23_speaks_i12_6_l1_a k]) (by kernel_rfl) ⟨(fun K x => ⟨k, (corbellaw23_speaks_i12_6_l1_eq k d K x.1.2.2.2.2.1 x.2.1.1 x.2.1.2 x.2.2.1.1 x.2.2.1.2 x.2.2.2.2.1.1 x.2.2.2.2.1.2 x.2.2.2.2.2.1.1 x.2.2.2.2.2.1.2 x.2.2.2.2.2.2.1.1 x.2.2.2.2.2.2.1.2 x.2.2.2.2.2.2.2.1.1 x.2.2.2.2.2.2.2.2.1.1 x.2.2.2.2.2.2.2.2.1.2 k x.1.2.2.2.1 x.1.2.2.2.2.2.1).trans (by kernel_rfl)⟩), trivial⟩
theorem corbellaw23_speaks_i12_6_j2_eq {R : Type} (k : Nat) (d : Nat) (K : EX → St → Option R) (wrong_6717 : Int) (v_6718 : Int) (v_6719 : Int) (hN_6720 : Bool) (h_6721 : List ByteArray) (hN_6722 : Bool) (h_6723 : List ByteArray) (hN_6724 : Bool) (h_6725 : List Int) (hN_6726 : Bool) (h_6727 : List Int) (jN_6728 : Bool) (j_6729 : List (Int × ByteArray)) (h_6730 : ByteArray) (hN_6731 : Bool) (h_6732 : List ByteArray) : corbellaw23_speaks_i12_6_j2 (fun y2 => corbellaw23_speaks_i12_6_j2_E0 K wrong_6717 v_6718 y2 hN_6720 h_6721 hN_6722 h_6723 hN_6724 h_6725 hN_6726 h_6727 jN_6728 j_6729 h_6730 hN_6731 h_6732) k v_6719 = ev tab (corbellaw23_speaks_F k) (inlK tab (corbellaw23_speaks_F k) (corbellaw23_speaks_I k) (d + 1)) (deepO 1 (corbellaw23_speaks_i12_6_O k) (d + 1)) (obB corbellaw23_speaks_i12_6_b 2) (obH corbellaw23_speaks_i12_6_b 2) (corbellaw23_speaks_i12_6_j2_S wrong_6717 v_6718 v_6719 hN_6720 h_6721 hN_6722 h_6723 hN_6724 h_6725 hN_6726 h_6727 jN_6728 j_6729 h_6730 hN_6731 h_6732) (fun e st => optb (clean corbellaw23_speaks_i12_6_x2 st) fun st => K e st) := by kernel_rfl
theorem corbellaw23_speaks_i12_6_j2_ok {R : Type} (k : Nat) (d : Nat)  : ObOK (R := R) tab (corbellaw23_speaks_F k) (inlK tab (corbellaw23_speaks_F k) (corbellaw23_speaks_I k) d) (deepO 1 (corbellaw23_speaks_i12_6_O k) d) (.join corbellaw23_speaks_i12_6_c2 corbellaw23_speaks_i12_6_x2 2 (obB corbellaw23_speaks_i12_6_b 2) (obH corbellaw23_speaks_i12_6_b 2)) :=
  deep_ob fun hd => by
    obtain ⟨d, rfl⟩ := Nat.exists_eq_add_of_le' hd
    exact join_ok (l := [corbellaw23_speaks_i12_6_j2_a k]) (by kernel_rfl) ⟨(fun K x => (corbellaw23_speaks_i12_6_j2_eq k d K x.1.2.2.2.1 x.1.2.2.2.2.1 x.1.2.2.2.2.2.1 x.2.1.1 x.2.1.2 x.2.2.1.1 x.2.2.1.2 x.2.2.2.2.1.1 x.2.2.2.2.1.2 x.2.2.2.2.2.1.1 x.2.2.2.2.2.1.2 x.2.2.2.2.2.2.1.1 x.2.2.2.2.2.2.1.2 x.2.2.2.2.2.2.2.1.1 x.2.2.2.2.2.2.2.2.1.1 x.2.2.2.2.2.2.2.2.1.2).trans (by kernel_rfl)), trivial⟩
theorem corbellaw23_speaks_i12_6_l3_eq {R : Type} (k : Nat) (d : Nat) (K : EX → St → Option R) (hN_6781 : Bool) (h_6782 : List ByteArray) (hN_6783 : Bool) (h_6784 : List ByteArray) (hN_6785 : Bool) (h_6786 : List Int) (hN_6787 : Bool) (h_6788 : List Int) (jN_6789 : Bool) (j_6790 : List (Int × ByteArray)) (h_6791 : ByteArray) (hN_6792 : Bool) : ∀ (j : Nat) (wrong_6779 : Int) (n_6780 : Int) (h_6793 : List ByteArray), corbellaw23_speaks_i12_6_l3 (fun y0 y1 y14 => corbellaw23_speaks_i12_6_l3_E0 K y0 y1 hN_6781 h_6782 hN_6783 h_6784 hN_6785 h_6786 hN_6787 h_6788 jN_6789 j_6790 h_6791 hN_6792 y14) (fun y0 y1 y14 => corbellaw23_speaks_i12_6_l3_E1 K y0 y1 hN_6781 h_6782 hN_6783 h_6784 hN_6785 h_6786 hN_6787 h_6788 jN_6789 j_6790 h_6791 hN_6792 y14) k j_6790 h_6791 j wrong_6779 n_6780 h_6793 = iter corbellaw23_speaks_i12_6_c3 corbellaw23_speaks_i12_6_x3 (ev tab (corbellaw23_speaks_F k) (inlK tab (corbellaw23_speaks_F k) (corbellaw23_speaks_I k) (d + 1)) (deepO 1 (corbellaw23_speaks_i12_6_O k) (d + 1)) (obB corbellaw23_speaks_i12_6_b 3) (obH corbellaw23_speaks_i12_6_b 3)) j (corbellaw23_speaks_i12_6_l3_S wrong_6779 n_6780 hN_6781 h_6782 hN_6783 h_6784 hN_6785 h_6786 hN_6787 h_6788 jN_6789 j_6790 h_6791 hN_6792 h_6793) K
  | 0, _, _, _ => rfl
  | j + 1, wrong_6779, n_6780, h_6793 => by
    have e : corbellaw23_speaks_i12_6_l3 (fun y0 y1 y14 => corbellaw23_speaks_i12_6_l3_E0 K y0 y1 hN_6781 h_6782 hN_6783 h_6784 hN_6785 h_6786 hN_6787 h_6788 jN_6789 j_6790 h_6791 hN_6792 y14) (fun y0 y1 y14 => corbellaw23_speaks_i12_6_l3_E1 K y0 y1 hN_6781 h_6782 hN_6783 h_6784 hN_6785 h_6786 hN_6787 h_6788 jN_6789 j_6790 h_6791 hN_6792 y14) k j_6790 h_6791 j = fun wrong_6779 n_6780 h_6793 => iter corbellaw23_speaks_i12_6_c3 corbellaw23_speaks_i12_6_x3 (ev tab (corbellaw23_speaks_F k) (inlK tab (corbellaw23_speaks_F k) (corbellaw23_speaks_I k) (d + 1)) (deepO 1 (corbellaw23_speaks_i12_6_O k) (d + 1)) (obB corbellaw23_speaks_i12_6_b 3) (obH corbellaw23_speaks_i12_6_b 3)) j (corbellaw23_speaks_i12_6_l3_S wrong_6779 n_6780 hN_6781 h_6782 hN_6783 h_6784 hN_6785 h_6786 hN_6787 h_6788 jN_6789 j_6790 h_6791 hN_6792 h_6793) K := by funext wrong_6779 n_6780 h_6793; exact corbellaw23_speaks_i12_6_l3_eq k d K hN_6781 h_6782 hN_6783 h_6784 hN_6785 h_6786 hN_6787 h_6788 jN_6789 j_6790 h_6791 hN_6792 j wrong_6779 n_6780 h_6793
    show corbellaw23_speaks_i12_6_l3s (corbellaw23_speaks_i12_6_l3 (fun y0 y1 y14 => corbellaw23_speaks_i12_6_l3_E0 K y0 y1 hN_6781 h_6782 hN_6783 h_6784 hN_6785 h_6786 hN_6787 h_6788 jN_6789 j_6790 h_6791 hN_6792 y14) (fun y0 y1 y14 => corbellaw23_speaks_i12_6_l3_E1 K y0 y1 hN_6781 h_6782 hN_6783 h_6784 hN_6785 h_6786 hN_6787 h_6788 jN_6789 j_6790 h_6791 hN_6792 y14) k j_6790 h_6791 j) (fun y0 y1 y14 => corbellaw23_speaks_i12_6_l3_E0 K y0 y1 hN_6781 h_6782 hN_6783 h_6784 hN_6785 h_6786 hN_6787 h_6788 jN_6789 j_6790 h_6791 hN_6792 y14) (fun y0 y1 y14 => corbellaw23_speaks_i12_6_l3_E1 K y0 y1 hN_6781 h_6782 hN_6783 h_6784 hN_6785 h_6786 hN_6787 h_6788 jN_6789 j_6790 h_6791 hN_6792 y14) k j_6790 h_6791 wrong_6779 n_6780 h_6793 = _
    rw [e, iter_succ]; kernel_rfl
theorem corbellaw23_speaks_i12_6_l3_ok {R : Type} (k : Nat) (d : Nat)  : ObOK (R := R) tab (corbellaw23_speaks_F k) (inlK tab (corbellaw23_speaks_F k) (corbellaw23_speaks_I k) d) (deepO 1 (corbellaw23_speaks_i12_6_O k) d) (.loop corbellaw23_speaks_i12_6_c3 corbellaw23_speaks_i12_6_x3 3 (obB corbellaw23_speaks_i12_6_b 3) (obH corbellaw23_speaks_i12_6_b 3)) :=
  deep_ob fun hd => by
    obtain ⟨d, rfl⟩ := Nat.exists_eq_add_of_le' hd
    exact loop_ok (l := [corbellaw23_speaks_i12_6_l3_a k]) (by kernel_rfl) ⟨(fun K x => ⟨k, (corbellaw23_speaks_i12_6_l3_eq k d K x.2.1.1 x.2.1.2 x.2.2.1.1 x.2.2.1.2 x.2.2.2.2.1.1 x.2.2.2.2.1.2 x.2.2.2.2.2.1.1 x.2.2.2.2.2.1.2 x.2.2.2.2.2.2.1.1 x.2.2.2.2.2.2.1.2 x.2.2.2.2.2.2.2.1.1 x.2.2.2.2.2.2.2.2.1.1 k x.1.2.2.2.1 x.1.2.2.2.2.1 x.2.2.2.2.2.2.2.2.1.2).trans (by kernel_rfl)⟩), trivial⟩
theorem corbellaw23_speaks_i12_6_j4_eq {R : Type} (k : Nat) (d : Nat) (K : EX → St → Option R) (wrong_6799 : Int) (n_6800 : Int) (hN_6801 : Bool) (h_6802 : List ByteArray) (hN_6803 : Bool) (h_6804 : List ByteArray) (hN_6805 : Bool) (h_6806 : List Int) (hN_6807 : Bool) (h_6808 : List Int) (jN_6809 : Bool) (j_6810 : List (Int × ByteArray)) (h_6811 : ByteArray) (hN_6812 : Bool) (h_6813 : List ByteArray) (sa_6814 : Int) (sb_6815 : ByteArray) : corbellaw23_speaks_i12_6_j4 (fun y0 y14 => corbellaw23_speaks_i12_6_j4_E0 K y0 n_6800 hN_6801 h_6802 hN_6803 h_6804 hN_6805 h_6806 hN_6807 h_6808 jN_6809 j_6810 h_6811 hN_6812 y14) k wrong_6799 h_6811 h_6813 sa_6814 sb_6815 = ev tab (corbellaw23_speaks_F k) (inlK tab (corbellaw23_speaks_F k) (corbellaw23_speaks_I k) (d + 1)) (deepO 1 (corbellaw23_speaks_i12_6_O k) (d + 1)) (obB corbellaw23_speaks_i12_6_b 4) (obH corbellaw23_speaks_i12_6_b 4) (corbellaw23_speaks_i12_6_j4_S wrong_6799 n_6800 hN_6801 h_6802 hN_6803 h_6804 hN_6805 h_6806 hN_6807 h_6808 jN_6809 j_6810 h_6811 hN_6812 h_6813 sa_6814 sb_6815) (fun e st => optb (clean corbellaw23_speaks_i12_6_x4 st) fun st => K e st) := by kernel_rfl
theorem corbellaw23_speaks_i12_6_j4_ok {R : Type} (k : Nat) (d : Nat)  : ObOK (R := R) tab (corbellaw23_speaks_F k) (inlK tab (corbellaw23_speaks_F k) (corbellaw23_speaks_I k) d) (deepO 1 (corbellaw23_speaks_i12_6_O k) d) (.join corbellaw23_speaks_i12_6_c4 corbellaw23_speaks_i12_6_x4 4 (obB corbellaw23_speaks_i12_6_b 4) (obH corbellaw23_speaks_i12_6_b 4)) :=
  deep_ob fun hd => by
    obtain ⟨d, rfl⟩ := Nat.exists_eq_add_of_le' hd
    exact join_ok (l := [corbellaw23_speaks_i12_6_j4_a k]) (by kernel_rfl) ⟨(fun K x => (corbellaw23_speaks_i12_6_j4_eq k d K x.1.2.2.2.1 x.1.2.2.2.2.1 x.2.1.1 x.2.1.2 x.2.2.1.1 x.2.2.1.2 x.2.2.2.2.1.1 x.2.2.2.2.1.2 x.2.2.2.2.2.1.1 x.2.2.2.2.2.1.2 x.2.2.2.2.2.2.1.1 x.2.2.2.2.2.2.1.2 x.2.2.2.2.2.2.2.1.1 x.2.2.2.2.2.2.2.2.1.1 x.2.2.2.2.2.2.2.2.1.2 x.2.2.2.2.2.2.2.2.2.2.1.1 x.2.2.2.2.2.2.2.2.2.2.1.2.1).trans (by kernel_rfl)), trivial⟩
theorem corbellaw23_speaks_i12_6_j5_eq {R : Type} (k : Nat) (d : Nat) (K : EX → St → Option R) (wrong_6836 : Int) (n_6837 : Int) (hN_6838 : Bool) (h_6839 : List ByteArray) (hN_6840 : Bool) (h_6841 : List ByteArray) (hN_6842 : Bool) (h_6843 : List Int) (hN_6844 : Bool) (h_6845 : List Int) (jN_6846 : Bool) (j_6847 : List (Int × ByteArray)) (h_6848 : ByteArray) (hN_6849 : Bool) (h_6850 : List ByteArray) : corbellaw23_speaks_i12_6_j5 (fun y1 => corbellaw23_speaks_i12_6_j5_E0 K wrong_6836 y1 hN_6838 h_6839 hN_6840 h_6841 hN_6842 h_6843 hN_6844 h_6845 jN_6846 j_6847 h_6848 hN_6849 h_6850) k n_6837 = ev tab (corbellaw23_speaks_F k) (inlK tab (corbellaw23_speaks_F k) (corbellaw23_speaks_I k) (d + 1)) (deepO 1 (corbellaw23_speaks_i12_6_O k) (d + 1)) (obB corbellaw23_speaks_i12_6_b 5) (obH corbellaw23_speaks_i12_6_b 5) (corbellaw23_speaks_i12_6_j5_S wrong_6836 n_6837 hN_6838 h_6839 hN_6840 h_6841 hN_6842 h_6843 hN_6844 h_6845 jN_6846 j_6847 h_6848 hN_6849 h_6850) (fun e st => optb (clean corbellaw23_speaks_i12_6_x5 st) fun st => K e st) := by kernel_rfl
theorem corbellaw23_speaks_i12_6_j5_ok {R : Type} (k : Nat) (d : Nat)  : ObOK (R := R) tab (corbellaw23_speaks_F k) (inlK tab (corbellaw23_speaks_F k) (corbellaw23_speaks_I k) d) (deepO 1 (corbellaw23_speaks_i12_6_O k) d) (.join corbellaw23_speaks_i12_6_c5 corbellaw23_speaks_i12_6_x5 5 (obB corbellaw23_speaks_i12_6_b 5) (obH corbellaw23_speaks_i12_6_b 5)) :=
  deep_ob fun hd => by
    obtain ⟨d, rfl⟩ := Nat.exists_eq_add_of_le' hd
    exact join_ok (l := [corbellaw23_speaks_i12_6_j5_a k]) (by kernel_rfl) ⟨(fun K x => (corbellaw23_speaks_i12_6_j5_eq k d K x.1.2.2.2.1 x.1.2.2.2.2.1 x.2.1.1 x.2.1.2 x.2.2.1.1 x.2.2.1.2 x.2.2.2.2.1.1 x.2.2.2.2.1.2 x.2.2.2.2.2.1.1 x.2.2.2.2.2.1.2 x.2.2.2.2.2.2.1.1 x.2.2.2.2.2.2.1.2 x.2.2.2.2.2.2.2.1.1 x.2.2.2.2.2.2.2.2.1.1 x.2.2.2.2.2.2.2.2.1.2).trans (by kernel_rfl)), trivial⟩
theorem corbellaw23_speaks_i12_6_cuts {R : Type} (k : Nat) : ∀ (d : Nat), ∀ c, Try.f12.body = some c → CutsOK (R := R) tab (corbellaw23_speaks_F k) (inlK tab (corbellaw23_speaks_F k) (corbellaw23_speaks_I k) d) (deepO 1 (corbellaw23_speaks_i12_6_O k) d) c corbellaw23_speaks_i12_6_h :=
  fun d => cuts_of (l := [.join corbellaw23_speaks_i12_6_c0 corbellaw23_speaks_i12_6_x0 0 (obB corbellaw23_speaks_i12_6_b 0) (obH corbellaw23_speaks_i12_6_b 0), .loop corbellaw23_speaks_i12_6_c1 corbellaw23_speaks_i12_6_x1 1 (obB corbellaw23_speaks_i12_6_b 1) (obH corbellaw23_speaks_i12_6_b 1), .join corbellaw23_speaks_i12_6_c2 corbellaw23_speaks_i12_6_x2 2 (obB corbellaw23_speaks_i12_6_b 2) (obH corbellaw23_speaks_i12_6_b 2), .loop corbellaw23_speaks_i12_6_c3 corbellaw23_speaks_i12_6_x3 3 (obB corbellaw23_speaks_i12_6_b 3) (obH corbellaw23_speaks_i12_6_b 3), .join corbellaw23_speaks_i12_6_c4 corbellaw23_speaks_i12_6_x4 4 (obB corbellaw23_speaks_i12_6_b 4) (obH corbellaw23_speaks_i12_6_b 4), .join corbellaw23_speaks_i12_6_c5 corbellaw23_speaks_i12_6_x5 5 (obB corbellaw23_speaks_i12_6_b 5) (obH corbellaw23_speaks_i12_6_b 5)]) (by kernel_rfl) ⟨corbellaw23_speaks_i12_6_j0_ok k d, corbellaw23_speaks_i12_6_l1_ok k d, corbellaw23_speaks_i12_6_j2_ok k d, corbellaw23_speaks_i12_6_l3_ok k d, corbellaw23_speaks_i12_6_j4_ok k d, corbellaw23_speaks_i12_6_j5_ok k d, trivial⟩
theorem corbellaw23_speaks_iok {R : Type} (k : Nat) : IOK Try.prog tab (corbellaw23_speaks_F k) (corbellaw23_speaks_I (R := R) k) := iok_cons Try.func8 Try.call8 (plainO (by kernel_rfl)) <| iok_cons Try.func10 Try.call10 (corbellaw23_speaks_i10_5_cuts k) <| iok_cons Try.func33 Try.call33 (corbellaw23_speaks_i33_5_cuts k) <| iok_cons Try.func10 Try.call10 (corbellaw23_speaks_i10_6_cuts k) <| iok_cons Try.func33 Try.call33 (corbellaw23_speaks_i33_6_cuts k) <| iok_cons Try.func12 Try.call12 (corbellaw23_speaks_i12_6_cuts k) <| iok_cons Try.func37 Try.call37 (plainO (by kernel_rfl)) <| iok_cons Try.func37 Try.call37 (plainO (by kernel_rfl)) <| iok_cons Try.func13 Try.call13 (plainO (by kernel_rfl)) <| iok_cons Try.func13 Try.call13 (plainO (by kernel_rfl)) <| iok_none
theorem corbellaw23_speaks_ev (k : Nat) (x : (corbellaw23_speaks_p k).τ.den) : evalF tab (corbellaw23_speaks_F k) (corbellaw23_speaks_p k) (corbellaw23_speaks_I k) 2 (corbellaw23_speaks_O k) corbellaw23_speaks_h Try.f7 x = (corbellaw23_speaks_p k).f x := by kernel_rfl
theorem corbellaw23_speaks_ok (k : Nat) : PFOK Try.prog tab 7 (corbellaw23_speaks_p k) := pfok mixed tabOK (corbellaw23_speaks_fok k) Try.func7 (I := corbellaw23_speaks_I k) (d := 2) (corbellaw23_speaks_iok k) (Q := corbellaw23_speaks_O k) (hi := corbellaw23_speaks_h) (corbellaw23_speaks_cuts k) (corbellaw23_speaks_ev k)
end Go.Proofs.Ytiolpmgphkakeaa.Ev
