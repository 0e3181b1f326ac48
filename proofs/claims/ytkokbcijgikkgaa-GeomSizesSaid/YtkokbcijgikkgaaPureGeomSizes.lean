/- GeomSizes: the pure statement, over numbers and lists alone; no conditions. -/
import Derived.Test.YtkokbcijgikkgaaStatGeomSizes
set_option linter.unusedVariables false
set_option linter.unusedSimpArgs false
namespace Go.Proofs.Ytkokbcijgikkgaa.Pure
open Go Go.RowKit Go.Proofs.Ytkokbcijgikkgaa.Ev
/-! ### whole numbers -/
theorem wf_i64 {n : Int} (h : Ty.wf (.int .i64) n) : -9223372036854775808 ≤ n ∧ n ≤ 9223372036854775807 := by
  have h : (Lit.int .i64 n).wf = true := h
  simpa [Lit.wf, IntKind.min, IntKind.max, IntKind.signed, IntKind.bits] using h
theorem w64 {n : Int} (h0 : -9223372036854775808 ≤ n) (h1 : n ≤ 9223372036854775807) : wrap64 n = n := by unfold wrap64; omega
theorem tdiv_pos {a b : Int} (ha : 0 ≤ a) : Int.tdiv a b = a / b := Int.tdiv_eq_ediv_of_nonneg ha
theorem tmod_pos {a b : Int} (ha : 0 ≤ a) : Int.tmod a b = a % b := Int.tmod_eq_emod_of_nonneg ha
theorem bytesOf_append (a b : List Int) : bytesOf a ++ bytesOf b = bytesOf (a ++ b) := by
  apply ByteArray.ext
  simp [bytesOf]
theorem cond_t {α : Type} {c : Bool} {a b : α} (h : c = true) : (bif c then a else b) = a := by rw [h]; rfl
theorem cond_f {α : Type} {c : Bool} {a b : α} (h : c = false) : (bif c then a else b) = b := by rw [h]; rfl
/-! ### the shape of an array of drives -/
def GG (a0 a1 a2 a3 a4 : Int) : Prop := 3 ≤ a0 ∧ a0 ≤ 16 ∧ 5 ≤ a1 ∧ a1 ≤ 64 ∧ 4 ≤ a2 ∧ a2 ≤ 256 ∧ 1 ≤ a3 ∧ a3 ≤ a4 ∧ a4 ≤ a1
instance (a0 a1 a2 a3 a4 : Int) : Decidable (GG a0 a1 a2 a3 a4) := by unfold GG; infer_instance
theorem within_val (k : Nat) (n l h : Int) : geom_within k n l h = some (decide (l ≤ n ∧ n ≤ h)) := by
  unfold geom_within
  by_cases a : l ≤ n <;> simp [a]
theorem good_val (k : Nat) (a0 a1 a2 a3 a4 : Int) : geom_Good k a0 a1 a2 a3 a4 = some (decide (GG a0 a1 a2 a3 a4)) := by
  unfold geom_Good
  simp only [within_val, optb]
  by_cases h1 : 3 ≤ a0 ∧ a0 ≤ 16 <;> by_cases h2 : 5 ≤ a1 ∧ a1 ≤ 64 <;> by_cases h3 : 4 ≤ a2 ∧ a2 ≤ 256 <;> by_cases h4 : 1 ≤ a3 ∧ a3 ≤ a4 <;> simp only [h1, h2, h3, h4, decide_true, decide_false, cond_true, cond_false, Option.some.injEq, decide_eq_decide, and_self] <;> first | (unfold GG; omega) | (symm; rw [decide_eq_false_iff_not]; unfold GG; omega)
theorem refgood_val (k : Nat) (a0 a1 a2 a3 a4 : Int) : corbelref04_Good k a0 a1 a2 a3 a4 = some (decide (GG a0 a1 a2 a3 a4)) := by
  unfold corbelref04_Good corbelref04_Good_j0 corbelref04_Good_k0 corbelref04_Good_k1
  by_cases h1 : a0 < 3 <;> by_cases h2 : 16 < a0 <;> by_cases h3 : a1 < 5 <;> by_cases h4 : 64 < a1 <;> by_cases h5 : a2 < 4 <;> by_cases h6 : 256 < a2 <;> by_cases h7 : 0 < a3 <;> by_cases h8 : a3 ≤ a4 <;>
    simp only [h1, h2, h3, h4, h5, h6, h7, h8, decide_true, decide_false, cond_true, cond_false, Option.some.injEq, decide_eq_decide] <;> first | (unfold GG; omega) | (symm; rw [decide_eq_false_iff_not]; unfold GG; omega)
section
variable {a0 a1 a2 a3 a4 : Int}
theorem cap_bound (h : GG a0 a1 a2 a3 a4) : 8 ≤ (a0 - 1) * a2 ∧ (a0 - 1) * a2 ≤ 3840 := by
  obtain ⟨h1, h2, _, _, h5, h6, _⟩ := h
  have e1 : 2 * 4 ≤ (a0 - 1) * a2 := Int.mul_le_mul (by omega) h5 (by omega) (by omega)
  have e2 : (a0 - 1) * a2 ≤ 15 * 256 := Int.mul_le_mul (by omega) h6 (by omega) (by omega)
  omega
theorem zones_yes (k : Nat) (h : GG a0 a1 a2 a3 a4) : geom_Zones k a0 a1 a2 a3 a4 = some (a1 - 3) := by
  unfold geom_Zones
  rw [good_val, decide_eq_true h]
  obtain ⟨_, _, h1, h2, _⟩ := h
  show some _ = _
  rw [w64 (n := a1 - 2) (by omega) (by omega), w64 (by omega) (by omega)]
  congr 1; omega
theorem zones_no (k : Nat) (h : ¬ GG a0 a1 a2 a3 a4) : geom_Zones k a0 a1 a2 a3 a4 = some 0 := by
  unfold geom_Zones
  rw [good_val, decide_eq_false h]; rfl
theorem cap_yes (k : Nat) (h : GG a0 a1 a2 a3 a4) : geom_Capacity k a0 a1 a2 a3 a4 = some ((a0 - 1) * a2) := by
  unfold geom_Capacity
  rw [good_val, decide_eq_true h]
  have hb := cap_bound h
  obtain ⟨h1, h2, _⟩ := h
  show some _ = _
  rw [w64 (n := a0 - 1) (by omega) (by omega), w64 (by omega) (by omega)]
theorem cap_no (k : Nat) (h : ¬ GG a0 a1 a2 a3 a4) : geom_Capacity k a0 a1 a2 a3 a4 = some 0 := by
  unfold geom_Capacity
  rw [good_val, decide_eq_false h]; rfl
theorem mul_val (k : Nat) (z c : Int) (z0 : 1 ≤ z) (z1 : z ≤ 1000) (c0 : 0 ≤ c) (c1 : c ≤ 1000000) : geom_Mul k z c = some (z * c, true) := by
  unfold geom_Mul
  rw [decide_eq_false (show ¬ z < 0 by omega), decide_eq_false (show ¬ c < 0 by omega), decide_eq_true (show 0 < z by omega), decide_eq_false (show ¬ z = 0 by omega)]
  simp only [cond_true, cond_false]
  have h1 : z * c ≤ 1000 * 1000000 := Int.mul_le_mul z1 c1 c0 (by omega)
  have h2 : 0 ≤ z * c := Int.mul_nonneg (by omega) c0
  have h3 : 4611686018427387904 / 1000 ≤ (4611686018427387904 : Int) / z := by
    rw [Int.le_ediv_iff_mul_le (by omega)]
    have : 4611686018427387904 / 1000 * z ≤ 4611686018427387904 / 1000 * 1000 := Int.mul_le_mul_of_nonneg_left z1 (by omega)
    omega
  have h4 : (4611686018427387904 : Int) / z ≤ 4611686018427387904 := Int.ediv_le_self _ (by omega)
  rw [tdiv_pos (by omega), w64 (by omega) (by omega), decide_eq_false (by omega)]
  show some (wrap64 (z * c), true) = _
  rw [w64 (by omega) (by omega)]
theorem there_yes (k : Nat) (h : GG a0 a1 a2 a3 a4) (z r : Int) : geom_there k a0 a1 a2 a3 a4 z r = some (decide (0 ≤ z ∧ z < a1 - 3 ∧ 0 ≤ r ∧ r < a2)) := by
  unfold geom_there
  rw [zones_yes k h]
  obtain ⟨h1, h2, h3, h4, h5, h6, _⟩ := h
  simp only [optb, within_val]
  rw [w64 (n := a1 - 3 - 1) (by omega) (by omega), w64 (n := a2 - 1) (by omega) (by omega)]
  by_cases h7 : 0 ≤ z ∧ z ≤ a1 - 3 - 1
  · rw [decide_eq_true h7]
    simp only [cond_true, Option.some.injEq, decide_eq_decide]
    omega
  · rw [decide_eq_false h7, decide_eq_false (show ¬ (0 ≤ z ∧ z < a1 - 3 ∧ 0 ≤ r ∧ r < a2) by omega)]; rfl
theorem there_no (k : Nat) (h : ¬ GG a0 a1 a2 a3 a4) (z r : Int) : geom_there k a0 a1 a2 a3 a4 z r = some false := by
  unfold geom_there
  rw [zones_no k h]
  simp only [optb, within_val]
  have : wrap64 (0 - 1) = -1 := by kernel_rfl
  rw [this, decide_eq_false (by omega)]; rfl
end
theorem speaks04 (k : Nat) : corbellaw04_speaks k = some true := by kernel_rfl
theorem parity_val (k : Nat) {a0 a1 a2 a3 a4 : Int} (h : GG a0 a1 a2 a3 a4) (z r : Int) : geom_Parity k a0 a1 a2 a3 a4 z r = some (if 0 ≤ z ∧ z < a1 - 3 ∧ 0 ≤ r ∧ r < a2 then Int.tmod (wrap64 (z + r)) a0 else -1) := by
  unfold geom_Parity
  rw [there_yes k h]
  obtain ⟨h1, h2, h3, h4, h5, h6, _⟩ := h
  simp only [optb]
  by_cases h7 : 0 ≤ z ∧ z < a1 - 3 ∧ 0 ≤ r ∧ r < a2
  · rw [decide_eq_true h7, if_pos h7, decide_eq_false (show ¬ a0 = 0 by omega)]; rfl
  · rw [decide_eq_false h7, if_neg h7]; rfl
theorem parity_no (k : Nat) {a0 a1 a2 a3 a4 : Int} (h : ¬ GG a0 a1 a2 a3 a4) (z r : Int) : geom_Parity k a0 a1 a2 a3 a4 z r = some (-1) := by
  unfold geom_Parity
  rw [there_no k h]; rfl
theorem split_no (k : Nat) {a0 a1 a2 a3 a4 : Int} (h : ¬ GG a0 a1 a2 a3 a4) (n : Int) : geom_Split k a0 a1 a2 a3 a4 n = some (0, (0, false)) := by
  unfold geom_Split
  rw [zones_no k h, cap_no k h]
  have e1 : geom_Mul k 0 0 = some (0, true) := by kernel_rfl
  simp only [optb, e1, within_val]
  have e2 : wrap64 (0 - 1) = -1 := by kernel_rfl
  rw [e2, decide_eq_false (by omega)]; rfl
theorem split_yes (k : Nat) {a0 a1 a2 a3 a4 : Int} (h : GG a0 a1 a2 a3 a4) (n : Int) : geom_Split k a0 a1 a2 a3 a4 n = some (if 0 ≤ n ∧ n < (a1 - 3) * ((a0 - 1) * a2) then (n / ((a0 - 1) * a2), (n % ((a0 - 1) * a2), true)) else (0, (0, false))) := by
  unfold geom_Split
  have hb := cap_bound h
  rw [zones_yes k h, cap_yes k h]
  obtain ⟨h1, h2, h3, h4, h5, h6, _⟩ := h
  generalize (a0 - 1) * a2 = c at hb ⊢
  simp only [optb]
  rw [mul_val k (a1 - 3) c (by omega) (by omega) (by omega) (by omega)]
  have p0 : 0 ≤ (a1 - 3) * c := Int.mul_nonneg (by omega) (by omega)
  have p1 : (a1 - 3) * c ≤ 61 * 3840 := Int.mul_le_mul (by omega) hb.2 (by omega) (by omega)
  generalize (a1 - 3) * c = q at p0 p1 ⊢
  simp only [within_val]
  rw [w64 (n := q - 1) (by omega) (by omega)]
  by_cases h7 : 0 ≤ n ∧ n < q
  · rw [if_pos h7, decide_eq_true (show 0 ≤ n ∧ n ≤ q - 1 by omega), decide_eq_false (show ¬ c = 0 by omega)]
    show some (wrap64 (Int.tdiv n c), (Int.tmod n c, true)) = _
    have d0 := Int.ediv_nonneg h7.1 (show 0 ≤ c by omega)
    have d1 := Int.ediv_le_self c h7.1
    rw [tdiv_pos h7.1, tmod_pos h7.1, w64 (by omega) (by omega)]
  · rw [if_neg h7, decide_eq_false (show ¬ (0 ≤ n ∧ n ≤ q - 1) by omega)]; rfl
theorem sizes (a0 a1 a2 a3 a4 a5 a6 : Int) : corbellaw04_GeomSizes 0 a0 a1 a2 a3 a4 a5 a6 = some true := by
  unfold corbellaw04_GeomSizes
  rw [speaks04, refgood_val]
  by_cases h : GG a0 a1 a2 a3 a4
  · rw [split_yes 0 h, decide_eq_true h]
    have hb := cap_bound h
    have hg := h
    obtain ⟨h1, h2, h3, h4, h5, h6, _⟩ := h
    simp only [optb, Bool.not_true, cond_false]
    rw [w64 (n := a1 - 3) (by omega) (by omega), w64 (n := a0 - 1) (by omega) (by omega), w64 (n := (a0 - 1) * a2) (by omega) (by omega)]
    -- the parity that the law reckons by itself
    have fin : ∀ (v : Int), v = (if 0 ≤ a5 ∧ a5 < a1 - 3 ∧ 0 ≤ a6 ∧ a6 < a2 then Int.tmod (wrap64 (a5 + a6)) a0 else -1) → ∀ s : Int × (Int × Bool), s = (if 0 ≤ a6 ∧ a6 < (a1 - 3) * ((a0 - 1) * a2) then (a6 / ((a0 - 1) * a2), (a6 % ((a0 - 1) * a2), true)) else (0, (0, false))) →
        corbellaw04_GeomSizes_k0 0 a5 a6 s.1 s.2.1 s.2.2 (a1 - 3) ((a0 - 1) * a2) v a0 a1 a2 a3 a4 a0 a1 a2 a3 a4 = some true := fun v hv s hs => by
      unfold corbellaw04_GeomSizes_k0 corbellaw04_GeomSizes_j1
      rw [zones_yes 0 hg, cap_yes 0 hg, parity_val 0 hg, ← hv]
      simp only [optb, decide_true, Bool.not_true, cond_false]
      unfold corbellaw04_GeomSizes_j2 corbellaw04_GeomSizes_k2 corbellaw04_GeomSizes_j3 corbellaw04_GeomSizes_k3 corbellaw04_GeomSizes_k4
      simp only [cond_false]
      generalize hc : (a0 - 1) * a2 = c at hb hs ⊢
      have p0 : 0 ≤ (a1 - 3) * c := Int.mul_nonneg (by omega) (by omega)
      have p1 : (a1 - 3) * c ≤ 61 * 3840 := Int.mul_le_mul (by omega) hb.2 (by omega) (by omega)
      rw [w64 (n := (a1 - 3) * c) (by omega) (by omega)]
      generalize (a1 - 3) * c = q at p0 p1 hs ⊢
      by_cases h7 : 0 ≤ a6 ∧ a6 < q
      · rw [if_pos h7] at hs
        subst hs
        have d0 := Int.ediv_nonneg h7.1 (show 0 ≤ c by omega)
        have d1 := Int.ediv_le_self c h7.1
        rw [decide_eq_false (show ¬ a6 < 0 by omega), decide_eq_false (show ¬ q ≤ a6 by omega), decide_eq_false (show ¬ c = 0 by omega), tdiv_pos h7.1, tmod_pos h7.1, w64 (by omega) (by omega), decide_eq_true rfl, decide_eq_true rfl]
        rfl
      · rw [if_neg h7] at hs
        subst hs
        by_cases h8 : a6 < 0
        · rw [decide_eq_true h8]; rfl
        · rw [decide_eq_false h8, decide_eq_true (show q ≤ a6 by omega)]; rfl
    unfold corbellaw04_GeomSizes_j0
    have z0 : decide (a0 = 0) = false := decide_eq_false (by omega)
    rw [z0]
    cases c1 : decide (0 ≤ a5) <;> cases c2 : decide (a5 < a1 - 3) <;> cases c3 : decide (0 ≤ a6) <;> cases c4 : decide (a6 < a2) <;> simp only [decide_eq_true_eq, decide_eq_false_iff_not] at c1 c2 c3 c4 <;> simp only [cond_true, cond_false] <;>
      first | exact fin _ (if_pos ⟨c1, c2, c3, c4⟩).symm _ rfl | (refine fin _ (if_neg (fun hh => ?_)).symm _ rfl; omega)
  · rw [split_no 0 h, decide_eq_false h, zones_no 0 h, cap_no 0 h, parity_no 0 h]; rfl
theorem GeomSizes : GeomSizesPure := fun x a5 a6 _ _ _ => ⟨0, sizes _ _ _ _ _ a5 a6⟩
end Go.Proofs.Ytkokbcijgikkgaa.Pure
