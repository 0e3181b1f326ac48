/- FitSizes: the pure statement, over numbers and lists alone; no conditions. -/
import Derived.Test.YtkokbcijgikkgaaStatFitSizes
set_option linter.unusedVariables false
set_option linter.unusedSimpArgs false
namespace Go.Proofs.Ytkokbcijgikkgaa.Pure
open Go.RowKit Go.Proofs.Ytkokbcijgikkgaa.PFitSizes Go.Proofs.YtkokbcijgikkgaaW.PrintWords Go.Proofs.YtkokbcijgikkgaaW.PrintLast Go.Proofs.YtkokbcijgikkgaaW.PrintMore
/-! ### whole numbers -/
theorem wf_i64 {n : Int} (h : (Lit.int .i64 n).wf = true) : -9223372036854775808 ≤ n ∧ n ≤ 9223372036854775807 := by
  simpa [Lit.wf, IntKind.min, IntKind.max, IntKind.signed, IntKind.bits] using h
theorem w64 {n : Int} (h0 : -9223372036854775808 ≤ n) (h1 : n ≤ 9223372036854775807) : wrap64 n = n := by unfold wrap64; omega
theorem tdiv_pos {a b : Int} (ha : 0 ≤ a) : Int.tdiv a b = a / b := Int.tdiv_eq_ediv_of_nonneg ha
theorem tmod_pos {a b : Int} (ha : 0 ≤ a) : Int.tmod a b = a % b := Int.tmod_eq_emod_of_nonneg ha

/-! ### geometries -/
def GoodG (d z b o a : Int) : Prop := 3 ≤ d ∧ d ≤ 16 ∧ 5 ≤ z ∧ z ≤ 64 ∧ 4 ≤ b ∧ b ≤ 256 ∧ 1 ≤ o ∧ o ≤ a ∧ a ≤ z
instance (d z b o a : Int) : Decidable (GoodG d z b o a) := by unfold GoodG; infer_instance

theorem within_eq (n lo hi : Int) : geom_within.f n lo hi = some (decide (lo ≤ n ∧ n ≤ hi)) := by
  unfold geom_within.f
  by_cases h : lo ≤ n
  · rw [if_pos h]; simp [h]
  · rw [if_neg h]; simp [h]

theorem good_eq (d z b o a : Int) : geom_Good.f d z b o a = some (decide (GoodG d z b o a)) := by
  unfold geom_Good.f GoodG
  simp only [within_eq, Option.bind_some]
  by_cases h1 : 3 ≤ d ∧ d ≤ 16
  · by_cases h2 : 5 ≤ z ∧ z ≤ 64
    · by_cases h3 : 4 ≤ b ∧ b ≤ 256
      · by_cases h4 : 1 ≤ o ∧ o ≤ a
        · simp [h1, h2, h3, h4]
        · rw [if_pos (decide_eq_true h1), if_pos (decide_eq_true h2), if_pos (decide_eq_true h3), decide_eq_false h4, if_neg (by decide)]
          congr 1; symm; apply decide_eq_false; omega
      · rw [if_pos (decide_eq_true h1), if_pos (decide_eq_true h2), decide_eq_false h3, if_neg (by decide)]
        congr 1; symm; apply decide_eq_false; omega
    · rw [if_pos (decide_eq_true h1), decide_eq_false h2, if_neg (by decide)]
      congr 1; symm; apply decide_eq_false; omega
  · rw [decide_eq_false h1, if_neg (by decide)]
    congr 1; symm; apply decide_eq_false; omega

theorem good_yes {d z b o a : Int} (h : GoodG d z b o a) : geom_Good.f d z b o a = some true := by rw [good_eq, decide_eq_true h]
theorem good_no {d z b o a : Int} (h : ¬ GoodG d z b o a) : geom_Good.f d z b o a = some false := by rw [good_eq, decide_eq_false h]

theorem zones_yes {d z b o a : Int} (h : GoodG d z b o a) : geom_Zones.f d z b o a = some (z - 3) := by
  unfold geom_Zones.f
  rw [good_yes h]; simp only [Option.bind_some, if_true]
  unfold GoodG at h
  rw [w64 (n := z - 2) (by omega) (by omega), w64 (by omega) (by omega)]
  congr 1; omega
theorem zones_no {d z b o a : Int} (h : ¬ GoodG d z b o a) : geom_Zones.f d z b o a = some 0 := by
  unfold geom_Zones.f
  rw [good_no h]; simp

theorem cap_bounds {d z b o a : Int} (h : GoodG d z b o a) : 8 ≤ (d - 1) * b ∧ (d - 1) * b ≤ 3840 := by
  unfold GoodG at h
  have h1 : (2 : Int) * 4 ≤ (d - 1) * b := Int.mul_le_mul (by omega) (by omega) (by omega) (by omega)
  have h2 : (d - 1) * b ≤ 15 * 256 := Int.mul_le_mul (by omega) (by omega) (by omega) (by omega)
  omega

theorem capacity_yes {d z b o a : Int} (h : GoodG d z b o a) : geom_Capacity.f d z b o a = some ((d - 1) * b) := by
  unfold geom_Capacity.f
  rw [good_yes h]; simp only [Option.bind_some, if_true]
  have hc := cap_bounds h
  unfold GoodG at h
  rw [w64 (n := d - 1) (by omega) (by omega), w64 (by omega) (by omega)]
theorem capacity_no {d z b o a : Int} (h : ¬ GoodG d z b o a) : geom_Capacity.f d z b o a = some 0 := by
  unfold geom_Capacity.f
  rw [good_no h]; simp

/-! ### entries -/
def entV (a : Int) : Int := a / 7 * 6 + (if a % 7 = 0 then 0 else a % 7 - 1)
theorem entries_low (a : Int) (h : a < 2 ∨ a > 1048576) : fit_Entries.f a = some 0 := by
  unfold fit_Entries.f
  by_cases h2 : a < 2
  · rw [if_pos h2]
  · rw [if_neg h2, if_pos (by omega)]
theorem entries_in (a : Int) (h0 : 2 ≤ a) (h1 : a ≤ 1048576) : fit_Entries.f a = some (entV a) := by
  unfold fit_Entries.f entV
  rw [if_neg (by omega), if_neg (by omega)]
  congr 1
  rw [Int.tdiv_eq_ediv_of_nonneg (by omega), Int.tmod_eq_emod_of_nonneg (by omega)]
  unfold mx wrap64
  split <;> split <;> omega
theorem entries_any (a : Int) (h0 : 0 ≤ a) (h1 : a ≤ 1048576) : fit_Entries.f a = some (entV a) := by
  by_cases h2 : 2 ≤ a
  · exact entries_in a h2 h1
  · rw [entries_low a (.inl (by omega))]
    unfold entV
    congr 1
    split <;> omega
theorem entV_cases (a : Int) : (a % 7 = 0 ∧ entV a = a / 7 * 6) ∨ (a % 7 ≠ 0 ∧ entV a = a / 7 * 6 + (a % 7 - 1)) := by
  unfold entV; split <;> omega
theorem speaks21 : corbellaw21_speaks.f = some true := by
  unfold corbellaw21_speaks.f
  rw [entries_in 7 (by decide) (by decide), entries_in 8 (by decide) (by decide), entries_in 9 (by decide) (by decide)]
  decide
/-! ### arrays, and the volumes' sizes -/
def Good17 (d z b o a : Int) : Prop := GoodG d z b o a ∧ 4 ≤ a ∧ 11 + d + 3 * (z - 3) ≤ b
instance (d z b o a : Int) : Decidable (Good17 d z b o a) := by unfold Good17; infer_instance
theorem agood_eq (d z b o a : Int) : array_Good.f d z b o a = some (decide (Good17 d z b o a)) := by
  unfold array_Good.f
  by_cases h : GoodG d z b o a
  · rw [good_yes h, zones_yes h]
    have hg := h
    unfold GoodG at hg
    simp only [Option.bind_some, if_true]
    rw [w64 (n := 11 + d) (by omega) (by omega), w64 (n := 3 * (z - 3)) (by omega) (by omega), w64 (by omega) (by omega)]
    by_cases h2 : a ≤ 3
    · rw [if_pos h2]; congr 1; symm; apply decide_eq_false; rintro ⟨_, h3, _⟩; omega
    · rw [if_neg h2]; congr 1
      by_cases h3 : b ≥ 11 + d + 3 * (z - 3)
      · rw [decide_eq_true h3]; symm; exact decide_eq_true ⟨h, by omega, h3⟩
      · rw [decide_eq_false h3]; symm; apply decide_eq_false; rintro ⟨_, _, h4⟩; exact h3 h4
  · rw [good_no h]
    simp only [Option.bind_some]
    rw [if_neg (by decide)]; congr 1; symm; apply decide_eq_false; rintro ⟨h1, _⟩; exact h h1
def sizeV (d z b : Int) : Int := (z - 4) * entV ((d - 1) * b - 8)
theorem size_bounds {d z b o a : Int} (h : Good17 d z b o a) : 32 ≤ (d - 1) * b - 8 ∧ (d - 1) * b - 8 ≤ 3832 ∧ 1 ≤ entV ((d - 1) * b - 8) ∧ entV ((d - 1) * b - 8) ≤ 4000 ∧ 1 ≤ sizeV d z b ∧ sizeV d z b ≤ 240000 := by
  obtain ⟨hg, h4, h5⟩ := h
  have hc := cap_bounds hg
  unfold GoodG at hg
  have h6 : (2 : Int) * 20 ≤ (d - 1) * b := Int.mul_le_mul (by omega) (by omega) (by omega) (by omega)
  have he := entV_cases ((d - 1) * b - 8)
  have e1 : 1 ≤ entV ((d - 1) * b - 8) := by omega
  have e2 : entV ((d - 1) * b - 8) ≤ 4000 := by omega
  have h7 : (1 : Int) * 1 ≤ (z - 4) * entV ((d - 1) * b - 8) := Int.mul_le_mul (by omega) e1 (by omega) (by omega)
  have h8 : (z - 4) * entV ((d - 1) * b - 8) ≤ 60 * 4000 := Int.mul_le_mul (by omega) e2 (by omega) (by omega)
  unfold sizeV
  omega
theorem size_yes {d z b o a : Int} (h : Good17 d z b o a) : fit_Size.f d z b o a = some (sizeV d z b) := by
  have hb := size_bounds h
  unfold fit_Size.f
  rw [agood_eq, decide_eq_true h, zones_yes h.1, capacity_yes h.1]
  have hg := h.1
  unfold GoodG at hg
  simp only [Option.bind_some, if_true]
  rw [w64 (n := (d - 1) * b - 8) (by omega) (by omega), entries_any _ (by omega) (by omega)]
  simp only [Option.bind_some]
  rw [w64 (n := z - 3 - 1) (by omega) (by omega), show z - 3 - 1 = z - 4 by omega]
  unfold sizeV at hb ⊢
  rw [w64 (by omega) (by omega)]
theorem size_no {d z b o a : Int} (h : ¬ Good17 d z b o a) : fit_Size.f d z b o a = some 0 := by
  unfold fit_Size.f
  rw [agood_eq, decide_eq_false h]
  simp
/-! ### the document's geometry -/
theorem rgood_eq (d z b o a : Int) : corbelref04_Good.f d z b o a = some (decide (GoodG d z b o a)) := by
  unfold corbelref04_Good.f GoodG
  by_cases h1 : d < 3
  · rw [if_pos h1]; congr 1; symm; apply decide_eq_false; omega
  by_cases h2 : d > 16
  · rw [if_neg h1, if_pos h2]; congr 1; symm; apply decide_eq_false; omega
  by_cases h3 : z < 5
  · rw [if_neg h1, if_neg h2, if_pos h3]; congr 1; symm; apply decide_eq_false; omega
  by_cases h4 : z > 64
  · rw [if_neg h1, if_neg h2, if_neg h3, if_pos h4]; congr 1; symm; apply decide_eq_false; omega
  by_cases h5 : b < 4
  · rw [if_neg h1, if_neg h2, if_neg h3, if_neg h4, if_pos h5]; congr 1; symm; apply decide_eq_false; omega
  by_cases h6 : b > 256
  · rw [if_neg h1, if_neg h2, if_neg h3, if_neg h4, if_neg h5, if_pos h6]; congr 1; symm; apply decide_eq_false; omega
  rw [if_neg h1, if_neg h2, if_neg h3, if_neg h4, if_neg h5, if_neg h6]
  by_cases h7 : o > 0
  · by_cases h8 : o ≤ a
    · rw [if_pos h7, if_pos h8]
      congr 1
      by_cases h9 : a ≤ z
      · rw [decide_eq_true h9]; symm; apply decide_eq_true; omega
      · rw [decide_eq_false h9]; symm; apply decide_eq_false; omega
    · rw [if_pos h7, if_neg h8]; congr 1; symm; apply decide_eq_false; omega
  · rw [if_neg h7]; congr 1; symm; apply decide_eq_false; omega
theorem rgood_yes {d z b o a : Int} (h : GoodG d z b o a) : corbelref04_Good.f d z b o a = some true := by rw [rgood_eq, decide_eq_true h]
theorem rgood_no {d z b o a : Int} (h : ¬ GoodG d z b o a) : corbelref04_Good.f d z b o a = some false := by rw [rgood_eq, decide_eq_false h]

theorem rgood17_eq (d z b o a : Int) : corbelref17_Good.f d z b o a = some (decide (Good17 d z b o a)) := by
  unfold corbelref17_Good.f
  rw [rgood_eq]
  by_cases h : GoodG d z b o a
  · rw [decide_eq_true h]
    have hg := h
    unfold GoodG at hg
    simp only [Option.bind_some, if_true]
    rw [w64 (n := 11 + d) (by omega) (by omega), w64 (n := z - 3) (by omega) (by omega), w64 (n := 3 * (z - 3)) (by omega) (by omega), w64 (by omega) (by omega)]
    by_cases h2 : a < 4
    · rw [if_pos h2]; congr 1; symm; apply decide_eq_false; rintro ⟨_, h3, _⟩; omega
    · rw [if_neg h2]; congr 1
      by_cases h3 : b ≥ 11 + d + 3 * (z - 3)
      · rw [decide_eq_true h3]; symm; exact decide_eq_true ⟨h, by omega, h3⟩
      · rw [decide_eq_false h3]; symm; apply decide_eq_false; rintro ⟨_, _, h4⟩; exact h3 h4
  · rw [decide_eq_false h]
    simp only [Option.bind_some]
    rw [if_neg (by decide)]; congr 1; symm; apply decide_eq_false; rintro ⟨h1, _⟩; exact h h1
def usedV (n : Int) : Int := n + (n + 5) / 6
theorem rentries_loop (a E : Int) (hE0 : 0 ≤ E) (hE1 : E ≤ 2000000) (h1 : E = 0 ∨ usedV E ≤ a) (h2 : a < usedV (E + 1)) (m : Nat) :
    ∀ (k : Nat) (n : Int), 0 ≤ n → n ≤ E → E - n = m → m < k → corbelref21_Entries.l0 k a n (usedV n) = some E := by
  induction m with
  | zero =>
    intro k n h3 h4 hm hk
    obtain ⟨k, rfl⟩ : ∃ q, k = q + 1 := ⟨k - 1, by omega⟩
    have : n = E := by omega
    subst this
    unfold usedV at h2 h1 ⊢
    simp only [corbelref21_Entries.l0]
    rw [tmod_pos h3, w64 (n := n + (n + 5) / 6 + 2) (by omega) (by omega), w64 (n := n + (n + 5) / 6 + 1) (by omega) (by omega)]
    by_cases h6 : n % 6 = 0
    · rw [if_pos h6, if_pos (by omega)]
    · rw [if_neg h6, if_pos (by omega)]
  | succ m ih =>
    intro k n h3 h4 hm hk
    obtain ⟨k, rfl⟩ : ∃ q, k = q + 1 := ⟨k - 1, by omega⟩
    have := ih k (n + 1) (by omega) (by omega) (by omega) (by omega)
    simp only [corbelref21_Entries.l0]
    unfold usedV at h1 h2 this ⊢
    rw [tmod_pos h3, w64 (n := n + (n + 5) / 6 + 2) (by omega) (by omega), w64 (n := n + (n + 5) / 6 + 1) (by omega) (by omega), w64 (n := n + 1) (by omega) (by omega)]
    by_cases h6 : n % 6 = 0
    · rw [if_pos h6, if_neg (by omega), show n + (n + 5) / 6 + 2 = n + 1 + (n + 1 + 5) / 6 by omega]
      exact this
    · rw [if_neg h6, if_neg (by omega), show n + (n + 5) / 6 + 1 = n + 1 + (n + 1 + 5) / 6 by omega]
      exact this
theorem rentries_eq (a : Int) (h1 : a ≤ 5000) (k : Nat) (hk : 6000 < k) : corbelref21_Entries.f k a = fit_Entries.f a := by
  unfold corbelref21_Entries.f
  rw [if_neg (by omega)]
  have e0 : (0 : Int) = usedV 0 := by decide
  by_cases h2 : a < 2
  · rw [entries_low a (.inl h2)]
    have := rentries_loop a 0 (by omega) (by omega) (.inl rfl) (by unfold usedV; omega) 0 k 0 (by omega) (by omega) (by omega) (by omega)
    rw [← e0] at this
    exact this
  · rw [entries_in a (by omega) (by omega)]
    have he := entV_cases a
    have := rentries_loop a (entV a) (by omega) (by omega) (.inr (by unfold usedV; omega)) (by unfold usedV; omega) (entV a).toNat k 0 (by omega) (by omega) (by omega) (by omega)
    rw [← e0] at this
    exact this
theorem rsize_eq (d z b o a : Int) (k : Nat) (hk : 6000 < k) : corbelref21_Size.f k d z b o a = fit_Size.f d z b o a := by
  unfold corbelref21_Size.f
  rw [rgood17_eq]
  by_cases h : Good17 d z b o a
  · have hb := size_bounds h
    have hg := h.1
    unfold GoodG at hg
    have hc := cap_bounds h.1
    rw [decide_eq_true h, size_yes h]
    simp only [Option.bind_some, if_true]
    rw [w64 (n := d - 1) (by omega) (by omega), w64 (n := (d - 1) * b) (by omega) (by omega), w64 (n := (d - 1) * b - 8) (by omega) (by omega), rentries_eq _ (by omega) k hk, entries_any _ (by omega) (by omega)]
    simp only [Option.bind_some]
    rw [w64 (n := z - 4) (by omega) (by omega)]
    unfold sizeV at hb ⊢
    rw [w64 (by omega) (by omega)]
  · rw [decide_eq_false h, size_no h]
    simp
theorem size_some (d z b o a : Int) : ∃ s, fit_Size.f d z b o a = some s := by
  by_cases h : Good17 d z b o a
  · exact ⟨_, size_yes h⟩
  · exact ⟨_, size_no h⟩
theorem entries_some (a : Int) : ∃ s, fit_Entries.f a = some s := by
  by_cases h : a < 2 ∨ a > 1048576
  · exact ⟨_, entries_low a h⟩
  · exact ⟨_, entries_in a (by omega) (by omega)⟩

theorem FitSizes : corbellaw21_FitSizes.Pure := by
  intro d z b o a n p q hd hz hb ho ha hn hp hq
  refine ⟨6010, ?_⟩
  unfold corbellaw21_FitSizes.f
  rw [speaks21]
  simp only [Option.bind_some, if_true]
  have hj : corbellaw21_FitSizes.j0 6010 n false d z b o a p q = some true := by
    simp only [corbellaw21_FitSizes.j0]
    rw [if_neg (by decide), rsize_eq _ _ _ _ _ _ (by omega)]
    obtain ⟨s, hs⟩ := size_some d z b o a
    have hm : mn n 5000 ≤ 5000 := by unfold mn; split <;> omega
    obtain ⟨e, he⟩ := entries_some (mn n 5000)
    rw [hs]
    simp only [Option.bind_some]
    have hr : fit_Range.f d z b o a p q = some (decide (p ≥ 0) && (decide (q ≥ 1) && (decide (p ≤ s) && decide (q ≤ wrap64 (s - p))))) := by
      unfold fit_Range.f
      rw [hs]
      simp only [Option.bind_some]
      by_cases h1 : p ≥ 0
      · by_cases h2 : q ≥ 1
        · by_cases h3 : p ≤ s
          · rw [if_pos h1, if_pos h2, if_pos h3, decide_eq_true h1, decide_eq_true h2, decide_eq_true h3]; simp
          · rw [if_pos h1, if_pos h2, if_neg h3, decide_eq_false h3]; simp
        · rw [if_pos h1, if_neg h2, decide_eq_false h2]; simp
      · rw [if_neg h1, decide_eq_false h1]; simp
    have hj1 : ∀ c : Bool, c = (decide (p ≥ 0) && (decide (q ≥ 1) && (decide (p ≤ s) && decide (q ≤ wrap64 (s - p))))) → corbellaw21_FitSizes.j1 6009 (mn n 5000) s c d z b o a p q = some true := by
      intro c hc
      simp only [corbellaw21_FitSizes.j1]
      rw [rentries_eq _ hm _ (by omega), he]
      simp only [Option.bind_some]
      rw [if_pos trivial, hs]
      simp only [Option.bind_some]
      rw [if_pos trivial, hr, hc]
      simp
    by_cases h1 : p ≥ 0
    · by_cases h2 : q ≥ 1
      · by_cases h3 : p ≤ s
        · rw [if_pos h1, if_pos h2, if_pos h3]; apply hj1; rw [decide_eq_true h1, decide_eq_true h2, decide_eq_true h3]; simp
        · rw [if_pos h1, if_pos h2, if_neg h3]; apply hj1; rw [decide_eq_false h3]; simp
      · rw [if_pos h1, if_neg h2]; apply hj1; rw [decide_eq_false h2]; simp
    · rw [if_neg h1]; apply hj1; rw [decide_eq_false h1]; simp
  by_cases hbig : n > 1048576
  · rw [if_pos hbig, entries_low n (.inr hbig)]
    exact hj
  · rw [if_neg hbig]
    exact hj
end Go.Proofs.Ytkokbcijgikkgaa.Pure
