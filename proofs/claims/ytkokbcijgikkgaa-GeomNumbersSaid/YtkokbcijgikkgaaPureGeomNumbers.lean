/- GeomNumbers: the pure statement, over numbers and lists alone; no conditions. -/
import Derived.Test.YtkokbcijgikkgaaPGeomNumbersx2
set_option linter.unusedVariables false
set_option linter.unusedSimpArgs false
namespace Go.Proofs.Ytkokbcijgikkgaa.Pure
open Go.RowKit Go.Proofs.Ytkokbcijgikkgaa.PGeomNumbers Go.Proofs.YtkokbcijgikkgaaW.PrintWords Go.Proofs.YtkokbcijgikkgaaW.PrintLast Go.Proofs.YtkokbcijgikkgaaW.PrintMore
/-! ### whole numbers -/
theorem wf_i64 {n : Int} (h : (Lit.int .i64 n).wf = true) : -9223372036854775808 ≤ n ∧ n ≤ 9223372036854775807 := by
  simpa [Lit.wf, IntKind.min, IntKind.max, IntKind.signed, IntKind.bits] using h
theorem w64 {n : Int} (h0 : -9223372036854775808 ≤ n) (h1 : n ≤ 9223372036854775807) : wrap64 n = n := by unfold wrap64; omega
theorem tdiv_pos {a b : Int} (ha : 0 ≤ a) : Int.tdiv a b = a / b := Int.tdiv_eq_ediv_of_nonneg ha
theorem tmod_pos {a b : Int} (ha : 0 ≤ a) : Int.tmod a b = a % b := Int.tmod_eq_emod_of_nonneg ha

/-! ### geometries -/
def GoodG (d z b o a : Int) : Prop := 3 ≤ d ∧ d ≤ 16 ∧ 5 ≤ z ∧ z ≤ 64 ∧ 4 ≤ b ∧ b ≤ 256 ∧ 1 ≤ o ∧ o ≤ a ∧ a ≤ z
instance (d z b o a : Int) : Decidable (GoodG d z b o a) := by unfold GoodG; infer_instance

theorem within_eq (n lo hi : Int) : geom_within.f n lo hi = some (decide (lo ≤ n ∧ n ≤ hi)) := by
  unfold geom_within.f
  by_cases h : lo ≤ n
  · rw [if_pos h]; simp [h]
  · rw [if_neg h]; simp [h]

theorem good_eq (d z b o a : Int) : geom_Good.f d z b o a = some (decide (GoodG d z b o a)) := by
  unfold geom_Good.f GoodG
  simp only [within_eq, Option.bind_some]
  by_cases h1 : 3 ≤ d ∧ d ≤ 16
  · by_cases h2 : 5 ≤ z ∧ z ≤ 64
    · by_cases h3 : 4 ≤ b ∧ b ≤ 256
      · by_cases h4 : 1 ≤ o ∧ o ≤ a
        · simp [h1, h2, h3, h4]
        · rw [if_pos (decide_eq_true h1), if_pos (decide_eq_true h2), if_pos (decide_eq_true h3), decide_eq_false h4, if_neg (by decide)]
          congr 1; symm; apply decide_eq_false; omega
      · rw [if_pos (decide_eq_true h1), if_pos (decide_eq_true h2), decide_eq_false h3, if_neg (by decide)]
        congr 1; symm; apply decide_eq_false; omega
    · rw [if_pos (decide_eq_true h1), decide_eq_false h2, if_neg (by decide)]
      congr 1; symm; apply decide_eq_false; omega
  · rw [decide_eq_false h1, if_neg (by decide)]
    congr 1; symm; apply decide_eq_false; omega

theorem good_yes {d z b o a : Int} (h : GoodG d z b o a) : geom_Good.f d z b o a = some true := by rw [good_eq, decide_eq_true h]
theorem good_no {d z b o a : Int} (h : ¬ GoodG d z b o a) : geom_Good.f d z b o a = some false := by rw [good_eq, decide_eq_false h]

theorem zones_yes {d z b o a : Int} (h : GoodG d z b o a) : geom_Zones.f d z b o a = some (z - 3) := by
  unfold geom_Zones.f
  rw [good_yes h]; simp only [Option.bind_some, if_true]
  unfold GoodG at h
  rw [w64 (n := z - 2) (by omega) (by omega), w64 (by omega) (by omega)]
  congr 1; omega
theorem zones_no {d z b o a : Int} (h : ¬ GoodG d z b o a) : geom_Zones.f d z b o a = some 0 := by
  unfold geom_Zones.f
  rw [good_no h]; simp

theorem cap_bounds {d z b o a : Int} (h : GoodG d z b o a) : 8 ≤ (d - 1) * b ∧ (d - 1) * b ≤ 3840 := by
  unfold GoodG at h
  have h1 : (2 : Int) * 4 ≤ (d - 1) * b := Int.mul_le_mul (by omega) (by omega) (by omega) (by omega)
  have h2 : (d - 1) * b ≤ 15 * 256 := Int.mul_le_mul (by omega) (by omega) (by omega) (by omega)
  omega

theorem capacity_yes {d z b o a : Int} (h : GoodG d z b o a) : geom_Capacity.f d z b o a = some ((d - 1) * b) := by
  unfold geom_Capacity.f
  rw [good_yes h]; simp only [Option.bind_some, if_true]
  have hc := cap_bounds h
  unfold GoodG at h
  rw [w64 (n := d - 1) (by omega) (by omega), w64 (by omega) (by omega)]
theorem capacity_no {d z b o a : Int} (h : ¬ GoodG d z b o a) : geom_Capacity.f d z b o a = some 0 := by
  unfold geom_Capacity.f
  rw [good_no h]; simp

theorem there_yes {d z b o a : Int} (h : GoodG d z b o a) (zone row : Int) : geom_there.f d z b o a zone row = some (decide (0 ≤ zone ∧ zone ≤ z - 4 ∧ 0 ≤ row ∧ row ≤ b - 1)) := by
  unfold geom_there.f
  rw [zones_yes h]; simp only [Option.bind_some]
  unfold GoodG at h
  rw [w64 (n := z - 3 - 1) (by omega) (by omega), w64 (n := b - 1) (by omega) (by omega)]
  simp only [within_eq, Option.bind_some]
  by_cases h1 : 0 ≤ zone ∧ zone ≤ z - 3 - 1
  · rw [if_pos (decide_eq_true h1)]
    congr 1
    by_cases h2 : 0 ≤ row ∧ row ≤ b - 1
    · rw [decide_eq_true h2, decide_eq_true]; omega
    · rw [decide_eq_false h2, decide_eq_false]; omega
  · rw [decide_eq_false h1, if_neg (by decide)]
    congr 1; symm; apply decide_eq_false; omega
theorem there_no {d z b o a : Int} (h : ¬ GoodG d z b o a) (zone row : Int) : geom_there.f d z b o a zone row = some false := by
  unfold geom_there.f
  rw [zones_no h]; simp only [Option.bind_some]
  rw [w64 (n := 0 - 1) (by omega) (by omega)]
  simp only [within_eq, Option.bind_some]
  rw [decide_eq_false (by omega), if_neg (by decide)]

def InZR (z b zone row : Int) : Prop := 0 ≤ zone ∧ zone ≤ z - 4 ∧ 0 ≤ row ∧ row ≤ b - 1
instance (z b zone row : Int) : Decidable (InZR z b zone row) := by unfold InZR; infer_instance

theorem parity_yes {d z b o a : Int} (h : GoodG d z b o a) {zone row : Int} (hi : InZR z b zone row) : geom_Parity.f d z b o a zone row = some ((zone + row) % d) := by
  unfold geom_Parity.f
  rw [there_yes h, decide_eq_true (show 0 ≤ zone ∧ zone ≤ z - 4 ∧ 0 ≤ row ∧ row ≤ b - 1 from hi)]; simp only [Option.bind_some, if_true]
  unfold GoodG at h; unfold InZR at hi
  rw [if_neg (by omega), w64 (by omega) (by omega), tmod_pos (by omega)]
theorem parity_out {d z b o a : Int} (h : GoodG d z b o a) {zone row : Int} (hi : ¬ InZR z b zone row) : geom_Parity.f d z b o a zone row = some (-1) := by
  unfold geom_Parity.f
  rw [there_yes h, decide_eq_false (show ¬ (0 ≤ zone ∧ zone ≤ z - 4 ∧ 0 ≤ row ∧ row ≤ b - 1) from hi)]; simp
theorem parity_no {d z b o a : Int} (h : ¬ GoodG d z b o a) (zone row : Int) : geom_Parity.f d z b o a zone row = some (-1) := by
  unfold geom_Parity.f
  rw [there_no h]; simp

def InZB (d z b zone block : Int) : Prop := 0 ≤ zone ∧ zone ≤ z - 4 ∧ 0 ≤ block ∧ block ≤ (d - 1) * b - 1
instance (d z b zone block : Int) : Decidable (InZB d z b zone block) := by unfold InZB; infer_instance

theorem row_bounds {d b block : Int} (hd : 3 ≤ d) (h0 : 0 ≤ block) (h1 : block ≤ (d - 1) * b - 1) : 0 ≤ block / (d - 1) ∧ block / (d - 1) ≤ b - 1 ∧ 0 ≤ block % (d - 1) ∧ block % (d - 1) < d - 1 := by
  refine ⟨Int.ediv_nonneg h0 (by omega), ?_, Int.emod_nonneg _ (by omega), Int.emod_lt_of_pos _ (by omega)⟩
  have h2 : block / (d - 1) < b := by
    apply Int.ediv_lt_of_lt_mul (by omega)
    rw [Int.mul_comm]; omega
  omega

def slotOf (d zone row k : Int) : Int := ((zone + row) % d + 1 + k) % d

theorem place_in {d z b o a : Int} (h : GoodG d z b o a) {zone block : Int} (hi : InZB d z b zone block) :
    geom_Place.f d z b o a zone block = some (block / (d - 1), slotOf d zone (block / (d - 1)) (block % (d - 1)), true) := by
  have hc := cap_bounds h
  have hr := row_bounds (d := d) (b := b) (by unfold GoodG at h; omega) hi.2.2.1 hi.2.2.2
  have hz : InZR z b zone (block / (d - 1)) := ⟨hi.1, hi.2.1, hr.1, hr.2.1⟩
  have hp : 0 ≤ (zone + block / (d - 1)) % d ∧ (zone + block / (d - 1)) % d < d := ⟨Int.emod_nonneg _ (by unfold GoodG at h; omega), Int.emod_lt_of_pos _ (by unfold GoodG at h; omega)⟩
  unfold geom_Place.f
  rw [there_yes h, decide_eq_true (by unfold InZB at hi; unfold GoodG at h; omega)]
  simp only [Option.bind_some, if_true]
  rw [capacity_yes h]; simp only [Option.bind_some]
  have hg := h
  unfold GoodG at h; unfold InZB at hi
  rw [w64 (n := (d - 1) * b - 1) (by omega) (by omega), within_eq, decide_eq_true (by omega)]
  simp only [Option.bind_some, if_true]
  rw [w64 (n := d - 1) (by omega) (by omega), if_neg (by omega), tdiv_pos (by omega), w64 (n := block / (d - 1)) (by omega) (by omega), parity_yes hg hz]
  simp only [Option.bind_some]
  rw [if_neg (by omega), tmod_pos (a := block) (by omega), w64 (n := (zone + block / (d - 1)) % d + 1) (by omega) (by omega), w64 (by omega) (by omega), tmod_pos (by omega)]
  rfl
theorem place_out {d z b o a : Int} (h : GoodG d z b o a) {zone block : Int} (hi : ¬ InZB d z b zone block) : geom_Place.f d z b o a zone block = some (0, 0, false) := by
  have hc := cap_bounds h
  unfold geom_Place.f
  rw [there_yes h]; simp only [Option.bind_some]
  by_cases hz : 0 ≤ zone ∧ zone ≤ z - 4 ∧ (0 : Int) ≤ 0 ∧ 0 ≤ b - 1
  · rw [if_pos (decide_eq_true hz), capacity_yes h]; simp only [Option.bind_some]
    rw [w64 (n := (d - 1) * b - 1) (by omega) (by omega), within_eq, decide_eq_false (by unfold InZB at hi; omega)]
    simp
  · rw [decide_eq_false hz, if_neg (by decide)]
theorem place_no {d z b o a : Int} (h : ¬ GoodG d z b o a) (zone block : Int) : geom_Place.f d z b o a zone block = some (0, 0, false) := by
  unfold geom_Place.f
  rw [there_no h]; simp
theorem speaks04 : corbellaw04_speaks.f = some true := by
  have hg : GoodG 3 5 4 1 1 := by decide
  unfold corbellaw04_speaks.f
  rw [place_in hg (zone := 0) (block := 2) (by decide), good_yes hg, capacity_yes hg, zones_yes hg]
  decide
theorem mul_neg {a b : Int} (h : a < 0 ∨ b < 0) : geom_Mul.f a b = some (0, false) := by
  unfold geom_Mul.f
  by_cases h1 : a < 0
  · rw [if_pos h1]
  · rw [if_neg h1, if_pos (by omega)]
theorem mul_zero {b : Int} (h : 0 ≤ b) : geom_Mul.f 0 b = some (0, true) := by
  unfold geom_Mul.f
  rw [if_neg (by decide), if_neg (by omega), if_neg (by decide), Int.zero_mul, w64 (n := 0) (by decide) (by decide)]
theorem mul_q {a b : Int} (ha : 0 < a) (hb : 0 ≤ b) : 0 ≤ 4611686018427387904 / a ∧ 4611686018427387904 / a ≤ 4611686018427387904 ∧ (b ≤ 4611686018427387904 / a → 0 ≤ a * b ∧ a * b ≤ 4611686018427387904) := by
  refine ⟨Int.ediv_nonneg (by omega) (by omega), Int.ediv_le_self _ (by omega), fun h => ⟨Int.mul_nonneg (by omega) hb, ?_⟩⟩
  have h1 : a * b ≤ a * (4611686018427387904 / a) := Int.mul_le_mul_of_nonneg_left h (by omega)
  have h2 := Int.mul_ediv_self_le (x := 4611686018427387904) (k := a) (by omega)
  omega
theorem mul_yes {a b : Int} (ha : 0 < a) (hb : 0 ≤ b) (h : b ≤ 4611686018427387904 / a) : geom_Mul.f a b = some (a * b, true) := by
  have hq := mul_q ha hb
  have hm := hq.2.2 h
  unfold geom_Mul.f
  rw [if_neg (by omega), if_neg (by omega), if_pos (by omega), if_neg (by omega), tdiv_pos (by omega), w64 (n := 4611686018427387904 / a) (by omega) (by omega), if_neg (by omega), w64 (n := a * b) (by omega) (by omega)]
theorem mul_no {a b : Int} (ha : 0 < a) (hb : 0 ≤ b) (h : 4611686018427387904 / a < b) : geom_Mul.f a b = some (0, false) := by
  have hq := mul_q ha hb
  unfold geom_Mul.f
  rw [if_neg (by omega), if_neg (by omega), if_pos (by omega), if_neg (by omega), tdiv_pos (by omega), w64 (n := 4611686018427387904 / a) (by omega) (by omega), if_pos (by omega)]
theorem add_yes {a b : Int} (ha : 0 ≤ a) (hb : 0 ≤ b) (h1 : a ≤ 4611686018427387904) (h2 : b ≤ 4611686018427387904 - a) : geom_Add.f a b = some (a + b, true) := by
  unfold geom_Add.f
  rw [if_neg (by omega), if_neg (by omega), if_neg (by omega), w64 (n := 4611686018427387904 - a) (by omega) (by omega), if_neg (by omega), w64 (by omega) (by omega)]
theorem add_neg {a b : Int} (h : a < 0 ∨ b < 0) : geom_Add.f a b = some (0, false) := by
  unfold geom_Add.f
  by_cases h1 : a < 0
  · rw [if_pos h1]
  · rw [if_neg h1, if_pos (by omega)]
theorem add_no {a b : Int} (ha : 0 ≤ a) (hb : 0 ≤ b) (h : 4611686018427387904 < a ∨ 4611686018427387904 - a < b) : geom_Add.f a b = some (0, false) := by
  unfold geom_Add.f
  by_cases h1 : a > 4611686018427387904
  · rw [if_neg (by omega), if_neg (by omega), if_pos h1]
  · rw [if_neg (by omega), if_neg (by omega), if_neg h1, w64 (n := 4611686018427387904 - a) (by omega) (by omega), if_pos (by omega)]

theorem GeomNumbers : corbellaw04_GeomNumbers.Pure := by
  intro a b hwa hwb
  have ba := wf_i64 hwa
  have bb := wf_i64 hwb
  unfold corbellaw04_GeomNumbers.f
  rw [speaks04]
  simp only [Option.bind_some, if_true]
  by_cases ha : a < 0
  · rw [mul_neg (.inl ha), add_neg (.inl ha)]
    have h1 : ¬ a ≥ 0 := by omega
    simp [h1]
  by_cases hb : b < 0
  · rw [mul_neg (.inr hb), add_neg (.inr hb)]
    have h1 : a ≥ 0 := by omega
    have h2 : ¬ b ≥ 0 := by omega
    simp [h1, h2]
  have ha' : a ≥ 0 := by omega
  have hb' : b ≥ 0 := by omega
  have hadd : (a ≤ 4611686018427387904 ∧ b ≤ wrap64 (4611686018427387904 - a) ∧ geom_Add.f a b = some (a + b, true) ∧ wrap64 (a + b - a) = b) ∨ (a ≤ 4611686018427387904 ∧ ¬ b ≤ wrap64 (4611686018427387904 - a) ∧ geom_Add.f a b = some (0, false)) ∨ (¬ a ≤ 4611686018427387904 ∧ geom_Add.f a b = some (0, false)) := by
    by_cases h1 : a ≤ 4611686018427387904
    · rw [w64 (n := 4611686018427387904 - a) (by omega) (by omega)]
      by_cases h2 : b ≤ 4611686018427387904 - a
      · exact .inl ⟨h1, h2, add_yes ha' hb' h1 h2, by rw [w64 (by omega) (by omega)]; omega⟩
      · exact .inr (.inl ⟨h1, h2, add_no ha' hb' (by omega)⟩)
    · exact .inr (.inr ⟨h1, add_no ha' hb' (by omega)⟩)
  by_cases h0 : a = 0
  · subst h0
    rw [mul_zero hb']
    rcases hadd with ⟨h1, h2, h3, h4⟩ | ⟨h1, h2, h3⟩ | ⟨h1, h3⟩
    · rw [h3]
      have h2' : b ≤ wrap64 4611686018427387904 := by simpa using h2
      have h4' : wrap64 b = b := by simpa using h4
      simp [ha', hb', h2', h4']
    · rw [h3]
      have h2' : ¬ b ≤ wrap64 4611686018427387904 := by simpa using h2
      simp [ha', hb', h2']
    · omega
  · have hap : 0 < a := by omega
    have hwb64 : wrap64 b = b := w64 (by omega) (by omega)
    have hq := mul_q hap hb'
    have hw : wrap64 (4611686018427387904 / a) = 4611686018427387904 / a := w64 (by omega) (by omega)
    have hw2 : wrap64 (Int.tdiv 4611686018427387904 a) = 4611686018427387904 / a := by rw [tdiv_pos (by omega)]; exact hw
    by_cases hle : b ≤ 4611686018427387904 / a
    · rw [mul_yes hap hb' hle]
      have hm := hq.2.2 hle
      have h5 : wrap64 (Int.tdiv (a * b) a) = b := by rw [tdiv_pos hm.1, Int.mul_ediv_cancel_left _ h0, w64 (by omega) (by omega)]
      have h6 : Int.tmod (a * b) a = 0 := by rw [tmod_pos hm.1, Int.mul_emod_right]
      rcases hadd with ⟨h1, h2, h3, h4⟩ | ⟨h1, h2, h3⟩ | ⟨h1, h3⟩
      · rw [h3]; simp [ha', hb', hwb64, h0, hw, hw2, hle, h5, h6, h1, h2, h4]
      · rw [h3]; simp [ha', hb', hwb64, h0, hw, hw2, hle, h5, h6, h1, h2]
      · rw [h3]; simp [ha', hb', hwb64, h0, hw, hw2, hle, h5, h6, h1]
    · rw [mul_no hap hb' (by omega)]
      rcases hadd with ⟨h1, h2, h3, h4⟩ | ⟨h1, h2, h3⟩ | ⟨h1, h3⟩
      · rw [h3]; simp [ha', hb', hwb64, h0, hw, hw2, hle, h1, h2, h4]
      · rw [h3]; simp [ha', hb', hwb64, h0, hw, hw2, hle, h1, h2]
      · rw [h3]; simp [ha', hb', hwb64, h0, hw, hw2, hle, h1]
end Go.Proofs.Ytkokbcijgikkgaa.Pure
