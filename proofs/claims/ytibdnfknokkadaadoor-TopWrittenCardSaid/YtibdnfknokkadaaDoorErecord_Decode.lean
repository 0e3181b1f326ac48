/- record_Decode, told on plain data. Written by program. -/
import Derived.Test.YtibdnfknokkadaaDoorExor_Empty
import Derived.Test.YtibdnfknokkadaaDoorEnums_Get
import Derived.Test.YtibdnfknokkadaaDoorEmrg
set_option linter.unusedVariables false
set_option maxRecDepth 1000000
namespace Go.Proofs.YtibdnfknokkadaaDoor.Ev
open Go Go.RowKit Go.Proofs
noncomputable def record_Decode (k : Nat) (s_0 : ByteArray) : Option ((Int × (Int × (Int × (Int × (Int × (Int × ByteArray)))))) × (Int × Int)) :=
  bif (decide (s_0 = (⟨#[]⟩ : ByteArray))) then
    some (((0 : Int), ((0 : Int), ((0 : Int), ((0 : Int), ((0 : Int), ((0 : Int), (⟨#[]⟩ : ByteArray))))))), ((0 : Int), (13 : Int)))
  else bif (decide ((sizeI s_0) < (64 : Int))) then
    some (((0 : Int), ((0 : Int), ((0 : Int), ((0 : Int), ((0 : Int), ((0 : Int), (⟨#[]⟩ : ByteArray))))))), ((0 : Int), (10 : Int)))
  else bif (decide ((2 : Int) ≤ (sizeI s_0))) then
    bif (!(decide ((s_0.extract (0 : Int).toNat (2 : Int).toNat) = (⟨#[67, 66]⟩ : ByteArray)))) then
      some (((0 : Int), ((0 : Int), ((0 : Int), ((0 : Int), ((0 : Int), ((0 : Int), (⟨#[]⟩ : ByteArray))))))), ((0 : Int), (10 : Int)))
    else bif (decide ((64 : Int) ≤ (sizeI s_0))) then
      optb (xor_Empty k (s_0.extract (25 : Int).toNat (64 : Int).toNat)) fun r_1 =>
      bif (!r_1) then
        some (((0 : Int), ((0 : Int), ((0 : Int), ((0 : Int), ((0 : Int), ((0 : Int), (⟨#[]⟩ : ByteArray))))))), ((0 : Int), (10 : Int)))
      else bif (decide ((3 : Int) ≤ (sizeI s_0))) then
        let z_2 := (s_0.extract (2 : Int).toNat (3 : Int).toNat)
        eqG (.str s_0) (.str s_0) <|
        eqG (.ptr 3 0) (.ptr 3 0) <|
        eqG (.int .i64 (2 : Int)) (.int .i64 (2 : Int)) <|
        eqG (.ptr 3 0) (.ptr 3 0) <|
        eqG (.int .i64 (2 : Int)) (.int .i64 (2 : Int)) <|
        eqG (.ptr 3 1) (.ptr 3 1) <|
        eqG (.int .i64 (1 : Int)) (.int .i64 (1 : Int)) <|
        eqG (.int .i64 (3 : Int)) (.int .i64 (3 : Int)) <|
        bif (decide ((3 : Int) ≤ (sizeI s_0))) then
          eqG (.str (s_0.extract (2 : Int).toNat (3 : Int).toNat)) (.str z_2) <|
          optb (nums_Get k z_2) fun r_3 =>
          bif (decide ((9 : Int) ≤ (sizeI s_0))) then
            let z_4 := (s_0.extract (3 : Int).toNat (9 : Int).toNat)
            eqG (.str s_0) (.str s_0) <|
            eqG (.ptr 4 0) (.ptr 4 0) <|
            eqG (.int .i64 (3 : Int)) (.int .i64 (3 : Int)) <|
            eqG (.ptr 4 0) (.ptr 4 0) <|
            eqG (.int .i64 (3 : Int)) (.int .i64 (3 : Int)) <|
            eqG (.ptr 4 1) (.ptr 4 1) <|
            eqG (.int .i64 (6 : Int)) (.int .i64 (6 : Int)) <|
            eqG (.int .i64 (9 : Int)) (.int .i64 (9 : Int)) <|
            bif (decide ((9 : Int) ≤ (sizeI s_0))) then
              eqG (.str (s_0.extract (3 : Int).toNat (9 : Int).toNat)) (.str z_4) <|
              optb (nums_Get k z_4) fun r_5 =>
              bif (decide ((11 : Int) ≤ (sizeI s_0))) then
                let z_6 := (s_0.extract (9 : Int).toNat (11 : Int).toNat)
                eqG (.str s_0) (.str s_0) <|
                eqG (.ptr 5 0) (.ptr 5 0) <|
                eqG (.int .i64 (9 : Int)) (.int .i64 (9 : Int)) <|
                eqG (.ptr 5 0) (.ptr 5 0) <|
                eqG (.int .i64 (9 : Int)) (.int .i64 (9 : Int)) <|
                eqG (.ptr 5 1) (.ptr 5 1) <|
                eqG (.int .i64 (2 : Int)) (.int .i64 (2 : Int)) <|
                eqG (.int .i64 (11 : Int)) (.int .i64 (11 : Int)) <|
                bif (decide ((11 : Int) ≤ (sizeI s_0))) then
                  eqG (.str (s_0.extract (9 : Int).toNat (11 : Int).toNat)) (.str z_6) <|
                  optb (nums_Get k z_6) fun r_7 =>
                  bif (decide ((13 : Int) ≤ (sizeI s_0))) then
                    let z_8 := (s_0.extract (11 : Int).toNat (13 : Int).toNat)
                    eqG (.str s_0) (.str s_0) <|
                    eqG (.ptr 6 0) (.ptr 6 0) <|
                    eqG (.int .i64 (11 : Int)) (.int .i64 (11 : Int)) <|
                    eqG (.ptr 6 0) (.ptr 6 0) <|
                    eqG (.int .i64 (11 : Int)) (.int .i64 (11 : Int)) <|
                    eqG (.ptr 6 1) (.ptr 6 1) <|
                    eqG (.int .i64 (2 : Int)) (.int .i64 (2 : Int)) <|
                    eqG (.int .i64 (13 : Int)) (.int .i64 (13 : Int)) <|
                    bif (decide ((13 : Int) ≤ (sizeI s_0))) then
                      eqG (.str (s_0.extract (11 : Int).toNat (13 : Int).toNat)) (.str z_8) <|
                      optb (nums_Get k z_8) fun r_9 =>
                      bif (decide ((19 : Int) ≤ (sizeI s_0))) then
                        let z_10 := (s_0.extract (13 : Int).toNat (19 : Int).toNat)
                        eqG (.str s_0) (.str s_0) <|
                        eqG (.ptr 7 0) (.ptr 7 0) <|
                        eqG (.int .i64 (13 : Int)) (.int .i64 (13 : Int)) <|
                        eqG (.ptr 7 0) (.ptr 7 0) <|
                        eqG (.int .i64 (13 : Int)) (.int .i64 (13 : Int)) <|
                        eqG (.ptr 7 1) (.ptr 7 1) <|
                        eqG (.int .i64 (6 : Int)) (.int .i64 (6 : Int)) <|
                        eqG (.int .i64 (19 : Int)) (.int .i64 (19 : Int)) <|
                        bif (decide ((19 : Int) ≤ (sizeI s_0))) then
                          eqG (.str (s_0.extract (13 : Int).toNat (19 : Int).toNat)) (.str z_10) <|
                          optb (nums_Get k z_10) fun r_11 =>
                          bif (decide ((21 : Int) ≤ (sizeI s_0))) then
                            let z_12 := (s_0.extract (19 : Int).toNat (21 : Int).toNat)
                            eqG (.str s_0) (.str s_0) <|
                            eqG (.ptr 8 0) (.ptr 8 0) <|
                            eqG (.int .i64 (19 : Int)) (.int .i64 (19 : Int)) <|
                            eqG (.ptr 8 0) (.ptr 8 0) <|
                            eqG (.int .i64 (19 : Int)) (.int .i64 (19 : Int)) <|
                            eqG (.ptr 8 1) (.ptr 8 1) <|
                            eqG (.int .i64 (2 : Int)) (.int .i64 (2 : Int)) <|
                            eqG (.int .i64 (21 : Int)) (.int .i64 (21 : Int)) <|
                            bif (decide ((21 : Int) ≤ (sizeI s_0))) then
                              eqG (.str (s_0.extract (19 : Int).toNat (21 : Int).toNat)) (.str z_12) <|
                              optb (nums_Get k z_12) fun r_13 =>
                              optb (record_Blocks k r_3.1) fun r_14 =>
                              bif (decide (r_3.1 < (0 : Int))) then
                                some (((0 : Int), ((0 : Int), ((0 : Int), ((0 : Int), ((0 : Int), ((0 : Int), (⟨#[]⟩ : ByteArray))))))), ((0 : Int), (10 : Int)))
                              else bif (decide ((6 : Int) < r_3.1)) then
                                some (((0 : Int), ((0 : Int), ((0 : Int), ((0 : Int), ((0 : Int), ((0 : Int), (⟨#[]⟩ : ByteArray))))))), ((0 : Int), (10 : Int)))
                              else bif (decide (r_5.1 < (0 : Int))) then
                                some (((0 : Int), ((0 : Int), ((0 : Int), ((0 : Int), ((0 : Int), ((0 : Int), (⟨#[]⟩ : ByteArray))))))), ((0 : Int), (10 : Int)))
                              else bif (decide ((1099511627776 : Int) < r_5.1)) then
                                some (((0 : Int), ((0 : Int), ((0 : Int), ((0 : Int), ((0 : Int), ((0 : Int), (⟨#[]⟩ : ByteArray))))))), ((0 : Int), (10 : Int)))
                              else bif (decide (r_7.1 < (0 : Int))) then
                                some (((0 : Int), ((0 : Int), ((0 : Int), ((0 : Int), ((0 : Int), ((0 : Int), (⟨#[]⟩ : ByteArray))))))), ((0 : Int), (10 : Int)))
                              else bif (decide ((65535 : Int) < r_7.1)) then
                                some (((0 : Int), ((0 : Int), ((0 : Int), ((0 : Int), ((0 : Int), ((0 : Int), (⟨#[]⟩ : ByteArray))))))), ((0 : Int), (10 : Int)))
                              else bif (decide (r_9.1 < (0 : Int))) then
                                some (((0 : Int), ((0 : Int), ((0 : Int), ((0 : Int), ((0 : Int), ((0 : Int), (⟨#[]⟩ : ByteArray))))))), ((0 : Int), (10 : Int)))
                              else bif (decide ((65535 : Int) < r_9.1)) then
                                some (((0 : Int), ((0 : Int), ((0 : Int), ((0 : Int), ((0 : Int), ((0 : Int), (⟨#[]⟩ : ByteArray))))))), ((0 : Int), (10 : Int)))
                              else bif (decide (r_11.1 < (0 : Int))) then
                                some (((0 : Int), ((0 : Int), ((0 : Int), ((0 : Int), ((0 : Int), ((0 : Int), (⟨#[]⟩ : ByteArray))))))), ((0 : Int), (10 : Int)))
                              else bif (decide ((1099511627776 : Int) < r_11.1)) then
                                some (((0 : Int), ((0 : Int), ((0 : Int), ((0 : Int), ((0 : Int), ((0 : Int), (⟨#[]⟩ : ByteArray))))))), ((0 : Int), (10 : Int)))
                              else bif (decide (r_13.1 < (0 : Int))) then
                                some (((0 : Int), ((0 : Int), ((0 : Int), ((0 : Int), ((0 : Int), ((0 : Int), (⟨#[]⟩ : ByteArray))))))), ((0 : Int), (10 : Int)))
                              else bif (decide ((65535 : Int) < r_13.1)) then
                                some (((0 : Int), ((0 : Int), ((0 : Int), ((0 : Int), ((0 : Int), ((0 : Int), (⟨#[]⟩ : ByteArray))))))), ((0 : Int), (10 : Int)))
                              else bif (!(decide ((1 : Int) ≤ r_3.1))) then
                                some (((0 : Int), ((0 : Int), ((0 : Int), ((0 : Int), ((0 : Int), ((0 : Int), (⟨#[]⟩ : ByteArray))))))), ((0 : Int), (10 : Int)))
                              else bif (decide ((sizeI s_0) < (wrap64 (r_14 * (64 : Int))))) then
                                some (((0 : Int), ((0 : Int), ((0 : Int), ((0 : Int), ((0 : Int), ((0 : Int), (⟨#[]⟩ : ByteArray))))))), ((0 : Int), (10 : Int)))
                              else bif ((decide ((64 : Int) ≤ (wrap64 (r_14 * (64 : Int))))) && (decide ((wrap64 (r_14 * (64 : Int))) ≤ (sizeI s_0)))) then
                                let z_15 := (s_0.extract (64 : Int).toNat (wrap64 (r_14 * (64 : Int))).toNat)
                                bif (decide ((25 : Int) ≤ (sizeI s_0))) then
                                  optb (nums_Get k (s_0.extract (21 : Int).toNat (25 : Int).toNat)) fun r_16 =>
                                  bif (decide ((21 : Int) ≤ (sizeI s_0))) then
                                    optb (crc_Sum k false ([(s_0.extract (0 : Int).toNat (21 : Int).toNat), z_15] : List ByteArray)) fun r_17 =>
                                    bif (!(decide ((IntKind.u32.wrap r_16.1) = r_17))) then
                                      some (((0 : Int), ((0 : Int), ((0 : Int), ((0 : Int), ((0 : Int), ((0 : Int), (⟨#[]⟩ : ByteArray))))))), ((0 : Int), (11 : Int)))
                                    else some ((r_3.1, (r_5.1, (r_7.1, (r_9.1, (r_11.1, (r_13.1, z_15)))))), (r_14, (0 : Int)))
                                  else none
                                else none
                              else none
                            else none
                          else none
                        else none
                      else none
                    else none
                  else none
                else none
              else none
            else none
          else none
        else none
      else none
    else none
  else none
noncomputable def record_Decode_p (k : Nat) : PF := { ps := [(false, 1)], rs := [(true, 7), (false, 1), (false, 1)], τ := .str, σ := (.pair (.pair (.int .i64) (.pair (.int .i64) (.pair (.int .i64) (.pair (.int .i64) (.pair (.int .i64) (.pair (.int .i64) .str)))))) (.pair (.int .i64) (.int .i64))), f := fun x => record_Decode k x }
noncomputable def record_Decode_F (k : Nat) : PT := fcons 39 (xor_Empty_p k) <| fcons 40 (nums_Get_p k) <| fcons 12 (record_Blocks_p k) <| fcons 16 (crc_Sum_p k) <| fnone
theorem record_Decode_fok (k : Nat) : FOK Tryd.prog tab (record_Decode_F k) := fok_cons (xor_Empty_ok k) Tryd.call39 <| fok_cons (nums_Get_ok k) Tryd.call40 <| fok_cons (record_Blocks_ok k) Tryd.call12 <| fok_cons (crc_Sum_ok k) Tryd.call16 <| fok_none
noncomputable def record_Decode_h : Hint := (.sq .no (.sq .no (.sq .no (.sq .no (.sq (.sq .no (.un 8 (.sq .no (.sq .no (.sq (.sq .no (.fl 2 12)) .no))))) .no)))))
noncomputable def record_Decode_O {R : Type} (k : Nat) : CutK R := cutsO []
noncomputable def record_Decode_i14_2_h : Hint := .no
noncomputable def record_Decode_i14_2_O {R : Type} (k : Nat) : CutK R := cutsO []
noncomputable def record_Decode_i24_4_h : Hint := .no
noncomputable def record_Decode_i24_4_O {R : Type} (k : Nat) : CutK R := cutsO []
noncomputable def record_Decode_i25_5_h : Hint := .no
noncomputable def record_Decode_i25_5_O {R : Type} (k : Nat) : CutK R := cutsO []
noncomputable def record_Decode_i26_6_h : Hint := .no
noncomputable def record_Decode_i26_6_O {R : Type} (k : Nat) : CutK R := cutsO []
noncomputable def record_Decode_i27_7_h : Hint := .no
noncomputable def record_Decode_i27_7_O {R : Type} (k : Nat) : CutK R := cutsO []
noncomputable def record_Decode_i28_8_h : Hint := .no
noncomputable def record_Decode_i28_8_O {R : Type} (k : Nat) : CutK R := cutsO []
noncomputable def record_Decode_i29_9_h : Hint := .no
noncomputable def record_Decode_i29_9_O {R : Type} (k : Nat) : CutK R := cutsO []
noncomputable def record_Decode_i13_9_h : Hint := (.sq .no (.sq (.sq .no (.un 8 .no)) .no))
noncomputable def record_Decode_i13_9_O {R : Type} (k : Nat) : CutK R := cutsO []
noncomputable def record_Decode_i14_9_h : Hint := .no
noncomputable def record_Decode_i14_9_O {R : Type} (k : Nat) : CutK R := cutsO []
noncomputable def record_Decode_i24_11_h : Hint := .no
noncomputable def record_Decode_i24_11_O {R : Type} (k : Nat) : CutK R := cutsO []
noncomputable def record_Decode_i25_12_h : Hint := .no
noncomputable def record_Decode_i25_12_O {R : Type} (k : Nat) : CutK R := cutsO []
noncomputable def record_Decode_i26_13_h : Hint := .no
noncomputable def record_Decode_i26_13_O {R : Type} (k : Nat) : CutK R := cutsO []
noncomputable def record_Decode_i27_14_h : Hint := .no
noncomputable def record_Decode_i27_14_O {R : Type} (k : Nat) : CutK R := cutsO []
noncomputable def record_Decode_i28_15_h : Hint := .no
noncomputable def record_Decode_i28_15_O {R : Type} (k : Nat) : CutK R := cutsO []
noncomputable def record_Decode_i29_16_h : Hint := .no
noncomputable def record_Decode_i29_16_O {R : Type} (k : Nat) : CutK R := cutsO []
noncomputable def record_Decode_I {R : Type} (k : Nat) : InlT R := icons 14 2 (record_Decode_i14_2_h, Tryd.f14, deepO 0 (record_Decode_i14_2_O k)) <| icons 24 4 (record_Decode_i24_4_h, Tryd.f24, deepO 0 (record_Decode_i24_4_O k)) <| icons 25 5 (record_Decode_i25_5_h, Tryd.f25, deepO 0 (record_Decode_i25_5_O k)) <| icons 26 6 (record_Decode_i26_6_h, Tryd.f26, deepO 0 (record_Decode_i26_6_O k)) <| icons 27 7 (record_Decode_i27_7_h, Tryd.f27, deepO 0 (record_Decode_i27_7_O k)) <| icons 28 8 (record_Decode_i28_8_h, Tryd.f28, deepO 0 (record_Decode_i28_8_O k)) <| icons 29 9 (record_Decode_i29_9_h, Tryd.f29, deepO 0 (record_Decode_i29_9_O k)) <| icons 13 9 (record_Decode_i13_9_h, Tryd.f13, deepO 1 (record_Decode_i13_9_O k)) <| icons 14 9 (record_Decode_i14_9_h, Tryd.f14, deepO 0 (record_Decode_i14_9_O k)) <| icons 24 11 (record_Decode_i24_11_h, Tryd.f24, deepO 0 (record_Decode_i24_11_O k)) <| icons 25 12 (record_Decode_i25_12_h, Tryd.f25, deepO 0 (record_Decode_i25_12_O k)) <| icons 26 13 (record_Decode_i26_13_h, Tryd.f26, deepO 0 (record_Decode_i26_13_O k)) <| icons 27 14 (record_Decode_i27_14_h, Tryd.f27, deepO 0 (record_Decode_i27_14_O k)) <| icons 28 15 (record_Decode_i28_15_h, Tryd.f28, deepO 0 (record_Decode_i28_15_O k)) <| icons 29 16 (record_Decode_i29_16_h, Tryd.f29, deepO 0 (record_Decode_i29_16_O k)) <| inone
theorem record_Decode_iok {R : Type} (k : Nat) : IOK Tryd.prog tab (record_Decode_F k) (record_Decode_I (R := R) k) := iok_cons Tryd.func14 Tryd.call14 (plainO (by kernel_rfl)) <| iok_cons Tryd.func24 Tryd.call24 (plainO (by kernel_rfl)) <| iok_cons Tryd.func25 Tryd.call25 (plainO (by kernel_rfl)) <| iok_cons Tryd.func26 Tryd.call26 (plainO (by kernel_rfl)) <| iok_cons Tryd.func27 Tryd.call27 (plainO (by kernel_rfl)) <| iok_cons Tryd.func28 Tryd.call28 (plainO (by kernel_rfl)) <| iok_cons Tryd.func29 Tryd.call29 (plainO (by kernel_rfl)) <| iok_cons Tryd.func13 Tryd.call13 (plainO (by kernel_rfl)) <| iok_cons Tryd.func14 Tryd.call14 (plainO (by kernel_rfl)) <| iok_cons Tryd.func24 Tryd.call24 (plainO (by kernel_rfl)) <| iok_cons Tryd.func25 Tryd.call25 (plainO (by kernel_rfl)) <| iok_cons Tryd.func26 Tryd.call26 (plainO (by kernel_rfl)) <| iok_cons Tryd.func27 Tryd.call27 (plainO (by kernel_rfl)) <| iok_cons Tryd.func28 Tryd.call28 (plainO (by kernel_rfl)) <| iok_cons Tryd.func29 Tryd.call29 (plainO (by kernel_rfl)) <| iok_none
theorem record_Decode_ev (k : Nat) (x : (record_Decode_p k).τ.den) : evalF tab (record_Decode_F k) (record_Decode_p k) (record_Decode_I k) 2 (record_Decode_O k) record_Decode_h Tryd.f19 x = (record_Decode_p k).f x := by kernel_rfl
theorem record_Decode_ok (k : Nat) : PFOK Tryd.prog tab 19 (record_Decode_p k) := pfok mixed tabOK (record_Decode_fok k) Tryd.func19 (I := record_Decode_I k) (d := 2) (record_Decode_iok k) (Q := record_Decode_O k) (hi := record_Decode_h) (cuts_of (l := []) (by kernel_rfl) trivial) (record_Decode_ev k)
end Go.Proofs.YtibdnfknokkadaaDoor.Ev
