/- FitGrows: the pure statement, over numbers and lists alone; no conditions. -/
import Derived.Test.YtkokbcijgikkgaaStatFitGrows
set_option linter.unusedVariables false
set_option linter.unusedSimpArgs false
namespace Go.Proofs.Ytkokbcijgikkgaa.Pure
open Go.RowKit Go.Proofs.Ytkokbcijgikkgaa.PFitGrows Go.Proofs.YtkokbcijgikkgaaW.PrintWords Go.Proofs.YtkokbcijgikkgaaW.PrintLast Go.Proofs.YtkokbcijgikkgaaW.PrintMore
/-! ### whole numbers -/
theorem wf_i64 {n : Int} (h : (Lit.int .i64 n).wf = true) : -9223372036854775808 ≤ n ∧ n ≤ 9223372036854775807 := by
  simpa [Lit.wf, IntKind.min, IntKind.max, IntKind.signed, IntKind.bits] using h
theorem w64 {n : Int} (h0 : -9223372036854775808 ≤ n) (h1 : n ≤ 9223372036854775807) : wrap64 n = n := by unfold wrap64; omega
theorem tdiv_pos {a b : Int} (ha : 0 ≤ a) : Int.tdiv a b = a / b := Int.tdiv_eq_ediv_of_nonneg ha
theorem tmod_pos {a b : Int} (ha : 0 ≤ a) : Int.tmod a b = a % b := Int.tmod_eq_emod_of_nonneg ha

/-! ### geometries -/
def GoodG (d z b o a : Int) : Prop := 3 ≤ d ∧ d ≤ 16 ∧ 5 ≤ z ∧ z ≤ 64 ∧ 4 ≤ b ∧ b ≤ 256 ∧ 1 ≤ o ∧ o ≤ a ∧ a ≤ z
instance (d z b o a : Int) : Decidable (GoodG d z b o a) := by unfold GoodG; infer_instance

theorem within_eq (n lo hi : Int) : geom_within.f n lo hi = some (decide (lo ≤ n ∧ n ≤ hi)) := by
  unfold geom_within.f
  by_cases h : lo ≤ n
  · rw [if_pos h]; simp [h]
  · rw [if_neg h]; simp [h]

theorem good_eq (d z b o a : Int) : geom_Good.f d z b o a = some (decide (GoodG d z b o a)) := by
  unfold geom_Good.f GoodG
  simp only [within_eq, Option.bind_some]
  by_cases h1 : 3 ≤ d ∧ d ≤ 16
  · by_cases h2 : 5 ≤ z ∧ z ≤ 64
    · by_cases h3 : 4 ≤ b ∧ b ≤ 256
      · by_cases h4 : 1 ≤ o ∧ o ≤ a
        · simp [h1, h2, h3, h4]
        · rw [if_pos (decide_eq_true h1), if_pos (decide_eq_true h2), if_pos (decide_eq_true h3), decide_eq_false h4, if_neg (by decide)]
          congr 1; symm; apply decide_eq_false; omega
      · rw [if_pos (decide_eq_true h1), if_pos (decide_eq_true h2), decide_eq_false h3, if_neg (by decide)]
        congr 1; symm; apply decide_eq_false; omega
    · rw [if_pos (decide_eq_true h1), decide_eq_false h2, if_neg (by decide)]
      congr 1; symm; apply decide_eq_false; omega
  · rw [decide_eq_false h1, if_neg (by decide)]
    congr 1; symm; apply decide_eq_false; omega

theorem good_yes {d z b o a : Int} (h : GoodG d z b o a) : geom_Good.f d z b o a = some true := by rw [good_eq, decide_eq_true h]
theorem good_no {d z b o a : Int} (h : ¬ GoodG d z b o a) : geom_Good.f d z b o a = some false := by rw [good_eq, decide_eq_false h]

theorem zones_yes {d z b o a : Int} (h : GoodG d z b o a) : geom_Zones.f d z b o a = some (z - 3) := by
  unfold geom_Zones.f
  rw [good_yes h]; simp only [Option.bind_some, if_true]
  unfold GoodG at h
  rw [w64 (n := z - 2) (by omega) (by omega), w64 (by omega) (by omega)]
  congr 1; omega
theorem zones_no {d z b o a : Int} (h : ¬ GoodG d z b o a) : geom_Zones.f d z b o a = some 0 := by
  unfold geom_Zones.f
  rw [good_no h]; simp

theorem cap_bounds {d z b o a : Int} (h : GoodG d z b o a) : 8 ≤ (d - 1) * b ∧ (d - 1) * b ≤ 3840 := by
  unfold GoodG at h
  have h1 : (2 : Int) * 4 ≤ (d - 1) * b := Int.mul_le_mul (by omega) (by omega) (by omega) (by omega)
  have h2 : (d - 1) * b ≤ 15 * 256 := Int.mul_le_mul (by omega) (by omega) (by omega) (by omega)
  omega

theorem capacity_yes {d z b o a : Int} (h : GoodG d z b o a) : geom_Capacity.f d z b o a = some ((d - 1) * b) := by
  unfold geom_Capacity.f
  rw [good_yes h]; simp only [Option.bind_some, if_true]
  have hc := cap_bounds h
  unfold GoodG at h
  rw [w64 (n := d - 1) (by omega) (by omega), w64 (by omega) (by omega)]
theorem capacity_no {d z b o a : Int} (h : ¬ GoodG d z b o a) : geom_Capacity.f d z b o a = some 0 := by
  unfold geom_Capacity.f
  rw [good_no h]; simp

/-! ### entries -/
def entV (a : Int) : Int := a / 7 * 6 + (if a % 7 = 0 then 0 else a % 7 - 1)
theorem entries_low (a : Int) (h : a < 2 ∨ a > 1048576) : fit_Entries.f a = some 0 := by
  unfold fit_Entries.f
  by_cases h2 : a < 2
  · rw [if_pos h2]
  · rw [if_neg h2, if_pos (by omega)]
theorem entries_in (a : Int) (h0 : 2 ≤ a) (h1 : a ≤ 1048576) : fit_Entries.f a = some (entV a) := by
  unfold fit_Entries.f entV
  rw [if_neg (by omega), if_neg (by omega)]
  congr 1
  rw [Int.tdiv_eq_ediv_of_nonneg (by omega), Int.tmod_eq_emod_of_nonneg (by omega)]
  unfold mx wrap64
  split <;> split <;> omega
theorem entries_any (a : Int) (h0 : 0 ≤ a) (h1 : a ≤ 1048576) : fit_Entries.f a = some (entV a) := by
  by_cases h2 : 2 ≤ a
  · exact entries_in a h2 h1
  · rw [entries_low a (.inl (by omega))]
    unfold entV
    congr 1
    split <;> omega
theorem entV_cases (a : Int) : (a % 7 = 0 ∧ entV a = a / 7 * 6) ∨ (a % 7 ≠ 0 ∧ entV a = a / 7 * 6 + (a % 7 - 1)) := by
  unfold entV; split <;> omega
theorem speaks21 : corbellaw21_speaks.f = some true := by
  unfold corbellaw21_speaks.f
  rw [entries_in 7 (by decide) (by decide), entries_in 8 (by decide) (by decide), entries_in 9 (by decide) (by decide)]
  decide
theorem and_mask (x : Int) (i : Nat) (hi : i ≤ 62) : Go.bits .and .i64 x (2 ^ i - 1) = x % 2 ^ i := by
  have h2 : (2 : Nat) ^ i ≤ 2 ^ 62 := Nat.pow_le_pow_right (by decide) hi
  have h62 : (2 : Nat) ^ 62 = 4611686018427387904 := by decide
  have h64 : (2 : Nat) ^ 64 = 18446744073709551616 := by decide
  have hp : 0 < 2 ^ i := Nat.two_pow_pos i
  have hc : ((2 : Int) ^ i - 1) = ((2 ^ i - 1 : Nat) : Int) := by rw [Int.natCast_sub hp]; simp
  have hd : (2 ^ i : Nat) ∣ 2 ^ 64 := Nat.pow_dvd_pow 2 (by omega)
  have hb : IntKind.i64.bits = 64 := rfl
  have key : ((BitVec.ofInt 64 x &&& BitVec.ofInt 64 (2 ^ i - 1)).toNat : Int) = x % 2 ^ i := by
    rw [hc, BitVec.ofInt_natCast, BitVec.toNat_and, BitVec.toNat_ofNat, Nat.mod_eq_of_lt (show 2 ^ i - 1 < 2 ^ 64 by omega), Nat.and_two_pow_sub_one_eq_mod, BitVec.toNat_ofInt,
      Int.natCast_emod, Int.toNat_of_nonneg (Int.emod_nonneg _ (by decide)), Int.emod_emod_of_dvd]
    · simp
    · exact Int.natCast_dvd_natCast.2 hd
  have hlt : ((BitVec.ofInt 64 x &&& BitVec.ofInt 64 (2 ^ i - 1)).toNat : Int) < 4611686018427387904 := by
    rw [key]
    have : x % ((2 ^ i : Nat) : Int) < ((2 ^ i : Nat) : Int) := Int.emod_lt_of_pos _ (by omega)
    have e : ((2 ^ i : Nat) : Int) = (2 : Int) ^ i := by simp
    rw [e] at this
    have : (2 : Int) ^ i ≤ 4611686018427387904 := by rw [← e]; omega
    omega
  show IntKind.i64.wrap ((BitVec.ofInt 64 x &&& BitVec.ofInt 64 (2 ^ i - 1)).toNat : Int) = x % 2 ^ i
  rw [IntKind.wrap_i64]
  omega
/-! ### arrays, and the volumes' sizes -/
def Good17 (d z b o a : Int) : Prop := GoodG d z b o a ∧ 4 ≤ a ∧ 11 + d + 3 * (z - 3) ≤ b
instance (d z b o a : Int) : Decidable (Good17 d z b o a) := by unfold Good17; infer_instance
theorem agood_eq (d z b o a : Int) : array_Good.f d z b o a = some (decide (Good17 d z b o a)) := by
  unfold array_Good.f
  by_cases h : GoodG d z b o a
  · rw [good_yes h, zones_yes h]
    have hg := h
    unfold GoodG at hg
    simp only [Option.bind_some, if_true]
    rw [w64 (n := 11 + d) (by omega) (by omega), w64 (n := 3 * (z - 3)) (by omega) (by omega), w64 (by omega) (by omega)]
    by_cases h2 : a ≤ 3
    · rw [if_pos h2]; congr 1; symm; apply decide_eq_false; rintro ⟨_, h3, _⟩; omega
    · rw [if_neg h2]; congr 1
      by_cases h3 : b ≥ 11 + d + 3 * (z - 3)
      · rw [decide_eq_true h3]; symm; exact decide_eq_true ⟨h, by omega, h3⟩
      · rw [decide_eq_false h3]; symm; apply decide_eq_false; rintro ⟨_, _, h4⟩; exact h3 h4
  · rw [good_no h]
    simp only [Option.bind_some]
    rw [if_neg (by decide)]; congr 1; symm; apply decide_eq_false; rintro ⟨h1, _⟩; exact h h1
def sizeV (d z b : Int) : Int := (z - 4) * entV ((d - 1) * b - 8)
theorem size_bounds {d z b o a : Int} (h : Good17 d z b o a) : 32 ≤ (d - 1) * b - 8 ∧ (d - 1) * b - 8 ≤ 3832 ∧ 1 ≤ entV ((d - 1) * b - 8) ∧ entV ((d - 1) * b - 8) ≤ 4000 ∧ 1 ≤ sizeV d z b ∧ sizeV d z b ≤ 240000 := by
  obtain ⟨hg, h4, h5⟩ := h
  have hc := cap_bounds hg
  unfold GoodG at hg
  have h6 : (2 : Int) * 20 ≤ (d - 1) * b := Int.mul_le_mul (by omega) (by omega) (by omega) (by omega)
  have he := entV_cases ((d - 1) * b - 8)
  have e1 : 1 ≤ entV ((d - 1) * b - 8) := by omega
  have e2 : entV ((d - 1) * b - 8) ≤ 4000 := by omega
  have h7 : (1 : Int) * 1 ≤ (z - 4) * entV ((d - 1) * b - 8) := Int.mul_le_mul (by omega) e1 (by omega) (by omega)
  have h8 : (z - 4) * entV ((d - 1) * b - 8) ≤ 60 * 4000 := Int.mul_le_mul (by omega) e2 (by omega) (by omega)
  unfold sizeV
  omega
theorem size_yes {d z b o a : Int} (h : Good17 d z b o a) : fit_Size.f d z b o a = some (sizeV d z b) := by
  have hb := size_bounds h
  unfold fit_Size.f
  rw [agood_eq, decide_eq_true h, zones_yes h.1, capacity_yes h.1]
  have hg := h.1
  unfold GoodG at hg
  simp only [Option.bind_some, if_true]
  rw [w64 (n := (d - 1) * b - 8) (by omega) (by omega), entries_any _ (by omega) (by omega)]
  simp only [Option.bind_some]
  rw [w64 (n := z - 3 - 1) (by omega) (by omega), show z - 3 - 1 = z - 4 by omega]
  unfold sizeV at hb ⊢
  rw [w64 (by omega) (by omega)]
theorem size_no {d z b o a : Int} (h : ¬ Good17 d z b o a) : fit_Size.f d z b o a = some 0 := by
  unfold fit_Size.f
  rw [agood_eq, decide_eq_false h]
  simp
/-! ### the document's geometry -/
theorem rgood_eq (d z b o a : Int) : corbelref04_Good.f d z b o a = some (decide (GoodG d z b o a)) := by
  unfold corbelref04_Good.f GoodG
  by_cases h1 : d < 3
  · rw [if_pos h1]; congr 1; symm; apply decide_eq_false; omega
  by_cases h2 : d > 16
  · rw [if_neg h1, if_pos h2]; congr 1; symm; apply decide_eq_false; omega
  by_cases h3 : z < 5
  · rw [if_neg h1, if_neg h2, if_pos h3]; congr 1; symm; apply decide_eq_false; omega
  by_cases h4 : z > 64
  · rw [if_neg h1, if_neg h2, if_neg h3, if_pos h4]; congr 1; symm; apply decide_eq_false; omega
  by_cases h5 : b < 4
  · rw [if_neg h1, if_neg h2, if_neg h3, if_neg h4, if_pos h5]; congr 1; symm; apply decide_eq_false; omega
  by_cases h6 : b > 256
  · rw [if_neg h1, if_neg h2, if_neg h3, if_neg h4, if_neg h5, if_pos h6]; congr 1; symm; apply decide_eq_false; omega
  rw [if_neg h1, if_neg h2, if_neg h3, if_neg h4, if_neg h5, if_neg h6]
  by_cases h7 : o > 0
  · by_cases h8 : o ≤ a
    · rw [if_pos h7, if_pos h8]
      congr 1
      by_cases h9 : a ≤ z
      · rw [decide_eq_true h9]; symm; apply decide_eq_true; omega
      · rw [decide_eq_false h9]; symm; apply decide_eq_false; omega
    · rw [if_pos h7, if_neg h8]; congr 1; symm; apply decide_eq_false; omega
  · rw [if_neg h7]; congr 1; symm; apply decide_eq_false; omega
theorem rgood_yes {d z b o a : Int} (h : GoodG d z b o a) : corbelref04_Good.f d z b o a = some true := by rw [rgood_eq, decide_eq_true h]
theorem rgood_no {d z b o a : Int} (h : ¬ GoodG d z b o a) : corbelref04_Good.f d z b o a = some false := by rw [rgood_eq, decide_eq_false h]

theorem rgood17_eq (d z b o a : Int) : corbelref17_Good.f d z b o a = some (decide (Good17 d z b o a)) := by
  unfold corbelref17_Good.f
  rw [rgood_eq]
  by_cases h : GoodG d z b o a
  · rw [decide_eq_true h]
    have hg := h
    unfold GoodG at hg
    simp only [Option.bind_some, if_true]
    rw [w64 (n := 11 + d) (by omega) (by omega), w64 (n := z - 3) (by omega) (by omega), w64 (n := 3 * (z - 3)) (by omega) (by omega), w64 (by omega) (by omega)]
    by_cases h2 : a < 4
    · rw [if_pos h2]; congr 1; symm; apply decide_eq_false; rintro ⟨_, h3, _⟩; omega
    · rw [if_neg h2]; congr 1
      by_cases h3 : b ≥ 11 + d + 3 * (z - 3)
      · rw [decide_eq_true h3]; symm; exact decide_eq_true ⟨h, by omega, h3⟩
      · rw [decide_eq_false h3]; symm; apply decide_eq_false; rintro ⟨_, _, h4⟩; exact h3 h4
  · rw [decide_eq_false h]
    simp only [Option.bind_some]
    rw [if_neg (by decide)]; congr 1; symm; apply decide_eq_false; rintro ⟨h1, _⟩; exact h h1
theorem FitGrows : corbellaw21_FitGrows.Pure := by
  intro d z b o a n hd hz hb ho ha hn
  refine ⟨2, ?_⟩
  unfold corbellaw21_FitGrows.f
  rw [speaks21]
  simp only [Option.bind_some, if_true]
  have hm : Go.bits .and .i64 n 524287 = n % 524288 := and_mask n 19 (by decide)
  rw [hm]
  have h0 : 0 ≤ n % 524288 := Int.emod_nonneg _ (by decide)
  have h1 : n % 524288 < 524288 := Int.emod_lt_of_pos _ (by decide)
  generalize n % 524288 = m at h0 h1
  rw [w64 (n := m + 1) (by omega) (by omega), entries_any m h0 (by omega), entries_any (m + 1) (by omega) (by omega)]
  simp only [Option.bind_some]
  have e1 := entV_cases m
  have e2 := entV_cases (m + 1)
  rw [if_neg (by omega), w64 (n := entV m + 1) (by omega) (by omega), decide_eq_false (by omega)]
  simp only [corbellaw21_FitGrows.j0]
  rw [if_neg (by decide), rgood17_eq]
  simp only [Option.bind_some]
  by_cases h : Good17 d z b o a
  · have hg := h.1
    unfold GoodG at hg
    have hz1 : mn (mx z 0) 100 + 1 = z + 1 := by
      unfold mn mx
      split <;> split <;> omega
    rw [decide_eq_true h, if_pos rfl, rgood17_eq, hz1]
    simp only [Option.bind_some, corbellaw21_FitGrows.j1]
    by_cases h2 : Good17 d (z + 1) b o a
    · rw [decide_eq_true h2, size_yes h, size_yes h2]
      have b1 := size_bounds h
      have e3 : sizeV d (z + 1) b = sizeV d z b + entV ((d - 1) * b - 8) := by
        unfold sizeV
        rw [show z + 1 - 4 = (z - 4) + 1 by omega, Int.add_mul, Int.one_mul]
      simp only [Option.bind_some, Bool.not_true]
      rw [if_neg (by decide), if_pos (by omega), decide_eq_true (by omega)]
    · rw [decide_eq_false h2]
      simp
  · rw [decide_eq_false h]
    simp [corbellaw21_FitGrows.j1]
end Go.Proofs.Ytkokbcijgikkgaa.Pure
