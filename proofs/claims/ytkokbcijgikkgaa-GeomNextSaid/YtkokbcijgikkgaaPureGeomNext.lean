/- GeomNext: the pure statement, over numbers and lists alone; no conditions. -/
import Derived.Test.YtkokbcijgikkgaaStatGeomNext
set_option linter.unusedVariables false
set_option linter.unusedSimpArgs false
namespace Go.Proofs.Ytkokbcijgikkgaa.Pure
open Go.RowKit Go.Proofs.Ytkokbcijgikkgaa.PGeomNext Go.Proofs.YtkokbcijgikkgaaW.PrintWords Go.Proofs.YtkokbcijgikkgaaW.PrintLast Go.Proofs.YtkokbcijgikkgaaW.PrintMore
/-! ### whole numbers -/
theorem wf_i64 {n : Int} (h : (Lit.int .i64 n).wf = true) : -9223372036854775808 ≤ n ∧ n ≤ 9223372036854775807 := by
  simpa [Lit.wf, IntKind.min, IntKind.max, IntKind.signed, IntKind.bits] using h
theorem w64 {n : Int} (h0 : -9223372036854775808 ≤ n) (h1 : n ≤ 9223372036854775807) : wrap64 n = n := by unfold wrap64; omega
theorem tdiv_pos {a b : Int} (ha : 0 ≤ a) : Int.tdiv a b = a / b := Int.tdiv_eq_ediv_of_nonneg ha
theorem tmod_pos {a b : Int} (ha : 0 ≤ a) : Int.tmod a b = a % b := Int.tmod_eq_emod_of_nonneg ha

/-! ### geometries -/
def GoodG (d z b o a : Int) : Prop := 3 ≤ d ∧ d ≤ 16 ∧ 5 ≤ z ∧ z ≤ 64 ∧ 4 ≤ b ∧ b ≤ 256 ∧ 1 ≤ o ∧ o ≤ a ∧ a ≤ z
instance (d z b o a : Int) : Decidable (GoodG d z b o a) := by unfold GoodG; infer_instance

theorem within_eq (n lo hi : Int) : geom_within.f n lo hi = some (decide (lo ≤ n ∧ n ≤ hi)) := by
  unfold geom_within.f
  by_cases h : lo ≤ n
  · rw [if_pos h]; simp [h]
  · rw [if_neg h]; simp [h]

theorem good_eq (d z b o a : Int) : geom_Good.f d z b o a = some (decide (GoodG d z b o a)) := by
  unfold geom_Good.f GoodG
  simp only [within_eq, Option.bind_some]
  by_cases h1 : 3 ≤ d ∧ d ≤ 16
  · by_cases h2 : 5 ≤ z ∧ z ≤ 64
    · by_cases h3 : 4 ≤ b ∧ b ≤ 256
      · by_cases h4 : 1 ≤ o ∧ o ≤ a
        · simp [h1, h2, h3, h4]
        · rw [if_pos (decide_eq_true h1), if_pos (decide_eq_true h2), if_pos (decide_eq_true h3), decide_eq_false h4, if_neg (by decide)]
          congr 1; symm; apply decide_eq_false; omega
      · rw [if_pos (decide_eq_true h1), if_pos (decide_eq_true h2), decide_eq_false h3, if_neg (by decide)]
        congr 1; symm; apply decide_eq_false; omega
    · rw [if_pos (decide_eq_true h1), decide_eq_false h2, if_neg (by decide)]
      congr 1; symm; apply decide_eq_false; omega
  · rw [decide_eq_false h1, if_neg (by decide)]
    congr 1; symm; apply decide_eq_false; omega

theorem good_yes {d z b o a : Int} (h : GoodG d z b o a) : geom_Good.f d z b o a = some true := by rw [good_eq, decide_eq_true h]
theorem good_no {d z b o a : Int} (h : ¬ GoodG d z b o a) : geom_Good.f d z b o a = some false := by rw [good_eq, decide_eq_false h]

theorem zones_yes {d z b o a : Int} (h : GoodG d z b o a) : geom_Zones.f d z b o a = some (z - 3) := by
  unfold geom_Zones.f
  rw [good_yes h]; simp only [Option.bind_some, if_true]
  unfold GoodG at h
  rw [w64 (n := z - 2) (by omega) (by omega), w64 (by omega) (by omega)]
  congr 1; omega
theorem zones_no {d z b o a : Int} (h : ¬ GoodG d z b o a) : geom_Zones.f d z b o a = some 0 := by
  unfold geom_Zones.f
  rw [good_no h]; simp

theorem cap_bounds {d z b o a : Int} (h : GoodG d z b o a) : 8 ≤ (d - 1) * b ∧ (d - 1) * b ≤ 3840 := by
  unfold GoodG at h
  have h1 : (2 : Int) * 4 ≤ (d - 1) * b := Int.mul_le_mul (by omega) (by omega) (by omega) (by omega)
  have h2 : (d - 1) * b ≤ 15 * 256 := Int.mul_le_mul (by omega) (by omega) (by omega) (by omega)
  omega

theorem capacity_yes {d z b o a : Int} (h : GoodG d z b o a) : geom_Capacity.f d z b o a = some ((d - 1) * b) := by
  unfold geom_Capacity.f
  rw [good_yes h]; simp only [Option.bind_some, if_true]
  have hc := cap_bounds h
  unfold GoodG at h
  rw [w64 (n := d - 1) (by omega) (by omega), w64 (by omega) (by omega)]
theorem capacity_no {d z b o a : Int} (h : ¬ GoodG d z b o a) : geom_Capacity.f d z b o a = some 0 := by
  unfold geom_Capacity.f
  rw [good_no h]; simp

theorem there_yes {d z b o a : Int} (h : GoodG d z b o a) (zone row : Int) : geom_there.f d z b o a zone row = some (decide (0 ≤ zone ∧ zone ≤ z - 4 ∧ 0 ≤ row ∧ row ≤ b - 1)) := by
  unfold geom_there.f
  rw [zones_yes h]; simp only [Option.bind_some]
  unfold GoodG at h
  rw [w64 (n := z - 3 - 1) (by omega) (by omega), w64 (n := b - 1) (by omega) (by omega)]
  simp only [within_eq, Option.bind_some]
  by_cases h1 : 0 ≤ zone ∧ zone ≤ z - 3 - 1
  · rw [if_pos (decide_eq_true h1)]
    congr 1
    by_cases h2 : 0 ≤ row ∧ row ≤ b - 1
    · rw [decide_eq_true h2, decide_eq_true]; omega
    · rw [decide_eq_false h2, decide_eq_false]; omega
  · rw [decide_eq_false h1, if_neg (by decide)]
    congr 1; symm; apply decide_eq_false; omega
theorem there_no {d z b o a : Int} (h : ¬ GoodG d z b o a) (zone row : Int) : geom_there.f d z b o a zone row = some false := by
  unfold geom_there.f
  rw [zones_no h]; simp only [Option.bind_some]
  rw [w64 (n := 0 - 1) (by omega) (by omega)]
  simp only [within_eq, Option.bind_some]
  rw [decide_eq_false (by omega), if_neg (by decide)]

def InZR (z b zone row : Int) : Prop := 0 ≤ zone ∧ zone ≤ z - 4 ∧ 0 ≤ row ∧ row ≤ b - 1
instance (z b zone row : Int) : Decidable (InZR z b zone row) := by unfold InZR; infer_instance

theorem parity_yes {d z b o a : Int} (h : GoodG d z b o a) {zone row : Int} (hi : InZR z b zone row) : geom_Parity.f d z b o a zone row = some ((zone + row) % d) := by
  unfold geom_Parity.f
  rw [there_yes h, decide_eq_true (show 0 ≤ zone ∧ zone ≤ z - 4 ∧ 0 ≤ row ∧ row ≤ b - 1 from hi)]; simp only [Option.bind_some, if_true]
  unfold GoodG at h; unfold InZR at hi
  rw [if_neg (by omega), w64 (by omega) (by omega), tmod_pos (by omega)]
theorem parity_out {d z b o a : Int} (h : GoodG d z b o a) {zone row : Int} (hi : ¬ InZR z b zone row) : geom_Parity.f d z b o a zone row = some (-1) := by
  unfold geom_Parity.f
  rw [there_yes h, decide_eq_false (show ¬ (0 ≤ zone ∧ zone ≤ z - 4 ∧ 0 ≤ row ∧ row ≤ b - 1) from hi)]; simp
theorem parity_no {d z b o a : Int} (h : ¬ GoodG d z b o a) (zone row : Int) : geom_Parity.f d z b o a zone row = some (-1) := by
  unfold geom_Parity.f
  rw [there_no h]; simp

def InZB (d z b zone block : Int) : Prop := 0 ≤ zone ∧ zone ≤ z - 4 ∧ 0 ≤ block ∧ block ≤ (d - 1) * b - 1
instance (d z b zone block : Int) : Decidable (InZB d z b zone block) := by unfold InZB; infer_instance

theorem row_bounds {d b block : Int} (hd : 3 ≤ d) (h0 : 0 ≤ block) (h1 : block ≤ (d - 1) * b - 1) : 0 ≤ block / (d - 1) ∧ block / (d - 1) ≤ b - 1 ∧ 0 ≤ block % (d - 1) ∧ block % (d - 1) < d - 1 := by
  refine ⟨Int.ediv_nonneg h0 (by omega), ?_, Int.emod_nonneg _ (by omega), Int.emod_lt_of_pos _ (by omega)⟩
  have h2 : block / (d - 1) < b := by
    apply Int.ediv_lt_of_lt_mul (by omega)
    rw [Int.mul_comm]; omega
  omega

def slotOf (d zone row k : Int) : Int := ((zone + row) % d + 1 + k) % d

theorem place_in {d z b o a : Int} (h : GoodG d z b o a) {zone block : Int} (hi : InZB d z b zone block) :
    geom_Place.f d z b o a zone block = some (block / (d - 1), slotOf d zone (block / (d - 1)) (block % (d - 1)), true) := by
  have hc := cap_bounds h
  have hr := row_bounds (d := d) (b := b) (by unfold GoodG at h; omega) hi.2.2.1 hi.2.2.2
  have hz : InZR z b zone (block / (d - 1)) := ⟨hi.1, hi.2.1, hr.1, hr.2.1⟩
  have hp : 0 ≤ (zone + block / (d - 1)) % d ∧ (zone + block / (d - 1)) % d < d := ⟨Int.emod_nonneg _ (by unfold GoodG at h; omega), Int.emod_lt_of_pos _ (by unfold GoodG at h; omega)⟩
  unfold geom_Place.f
  rw [there_yes h, decide_eq_true (by unfold InZB at hi; unfold GoodG at h; omega)]
  simp only [Option.bind_some, if_true]
  rw [capacity_yes h]; simp only [Option.bind_some]
  have hg := h
  unfold GoodG at h; unfold InZB at hi
  rw [w64 (n := (d - 1) * b - 1) (by omega) (by omega), within_eq, decide_eq_true (by omega)]
  simp only [Option.bind_some, if_true]
  rw [w64 (n := d - 1) (by omega) (by omega), if_neg (by omega), tdiv_pos (by omega), w64 (n := block / (d - 1)) (by omega) (by omega), parity_yes hg hz]
  simp only [Option.bind_some]
  rw [if_neg (by omega), tmod_pos (a := block) (by omega), w64 (n := (zone + block / (d - 1)) % d + 1) (by omega) (by omega), w64 (by omega) (by omega), tmod_pos (by omega)]
  rfl
theorem place_out {d z b o a : Int} (h : GoodG d z b o a) {zone block : Int} (hi : ¬ InZB d z b zone block) : geom_Place.f d z b o a zone block = some (0, 0, false) := by
  have hc := cap_bounds h
  unfold geom_Place.f
  rw [there_yes h]; simp only [Option.bind_some]
  by_cases hz : 0 ≤ zone ∧ zone ≤ z - 4 ∧ (0 : Int) ≤ 0 ∧ 0 ≤ b - 1
  · rw [if_pos (decide_eq_true hz), capacity_yes h]; simp only [Option.bind_some]
    rw [w64 (n := (d - 1) * b - 1) (by omega) (by omega), within_eq, decide_eq_false (by unfold InZB at hi; omega)]
    simp
  · rw [decide_eq_false hz, if_neg (by decide)]
theorem place_no {d z b o a : Int} (h : ¬ GoodG d z b o a) (zone block : Int) : geom_Place.f d z b o a zone block = some (0, 0, false) := by
  unfold geom_Place.f
  rw [there_no h]; simp
theorem speaks04 : corbellaw04_speaks.f = some true := by
  have hg : GoodG 3 5 4 1 1 := by decide
  unfold corbellaw04_speaks.f
  rw [place_in hg (zone := 0) (block := 2) (by decide), good_yes hg, capacity_yes hg, zones_yes hg]
  decide
theorem mul_neg {a b : Int} (h : a < 0 ∨ b < 0) : geom_Mul.f a b = some (0, false) := by
  unfold geom_Mul.f
  by_cases h1 : a < 0
  · rw [if_pos h1]
  · rw [if_neg h1, if_pos (by omega)]
theorem mul_zero {b : Int} (h : 0 ≤ b) : geom_Mul.f 0 b = some (0, true) := by
  unfold geom_Mul.f
  rw [if_neg (by decide), if_neg (by omega), if_neg (by decide), Int.zero_mul, w64 (n := 0) (by decide) (by decide)]
theorem mul_q {a b : Int} (ha : 0 < a) (hb : 0 ≤ b) : 0 ≤ 4611686018427387904 / a ∧ 4611686018427387904 / a ≤ 4611686018427387904 ∧ (b ≤ 4611686018427387904 / a → 0 ≤ a * b ∧ a * b ≤ 4611686018427387904) := by
  refine ⟨Int.ediv_nonneg (by omega) (by omega), Int.ediv_le_self _ (by omega), fun h => ⟨Int.mul_nonneg (by omega) hb, ?_⟩⟩
  have h1 : a * b ≤ a * (4611686018427387904 / a) := Int.mul_le_mul_of_nonneg_left h (by omega)
  have h2 := Int.mul_ediv_self_le (x := 4611686018427387904) (k := a) (by omega)
  omega
theorem mul_yes {a b : Int} (ha : 0 < a) (hb : 0 ≤ b) (h : b ≤ 4611686018427387904 / a) : geom_Mul.f a b = some (a * b, true) := by
  have hq := mul_q ha hb
  have hm := hq.2.2 h
  unfold geom_Mul.f
  rw [if_neg (by omega), if_neg (by omega), if_pos (by omega), if_neg (by omega), tdiv_pos (by omega), w64 (n := 4611686018427387904 / a) (by omega) (by omega), if_neg (by omega), w64 (n := a * b) (by omega) (by omega)]
theorem mul_no {a b : Int} (ha : 0 < a) (hb : 0 ≤ b) (h : 4611686018427387904 / a < b) : geom_Mul.f a b = some (0, false) := by
  have hq := mul_q ha hb
  unfold geom_Mul.f
  rw [if_neg (by omega), if_neg (by omega), if_pos (by omega), if_neg (by omega), tdiv_pos (by omega), w64 (n := 4611686018427387904 / a) (by omega) (by omega), if_pos (by omega)]
/-! ### the zone and the block of a number -/
theorem all_bounds {d z b o a : Int} (h : GoodG d z b o a) : 16 ≤ (z - 3) * ((d - 1) * b) ∧ (z - 3) * ((d - 1) * b) ≤ 234240 ∧ (d - 1) * b ≤ (z - 3) * ((d - 1) * b) := by
  have hc := cap_bounds h
  unfold GoodG at h
  have h1 : (2 : Int) * 8 ≤ (z - 3) * ((d - 1) * b) := Int.mul_le_mul (by omega) hc.1 (by omega) (by omega)
  have h2 : (z - 3) * ((d - 1) * b) ≤ 61 * 3840 := Int.mul_le_mul (by omega) hc.2 (by omega) (by omega)
  have h3 : 1 * ((d - 1) * b) ≤ (z - 3) * ((d - 1) * b) := Int.mul_le_mul_of_nonneg_right (by omega) (by omega)
  omega
theorem div_step {n c : Int} (hc : 0 < c) (h0 : 0 ≤ n) : (n % c + 1 < c ∧ (n + 1) / c = n / c ∧ (n + 1) % c = n % c + 1) ∨ (n % c + 1 = c ∧ (n + 1) / c = n / c + 1 ∧ (n + 1) % c = 0) := by
  have h1 := Int.emod_add_mul_ediv n c
  have h2 := Int.emod_nonneg n (show c ≠ 0 by omega)
  have h3 := Int.emod_lt_of_pos n hc
  rcases Int.lt_or_le (n % c + 1) c with hlt | hge
  · refine .inl ⟨hlt, ?_, ?_⟩
    · have e : n + 1 = (n % c + 1) + (n / c) * c := by rw [Int.mul_comm (n / c)]; omega
      rw [e, Int.add_mul_ediv_right _ _ (by omega), Int.ediv_eq_zero_of_lt (by omega) hlt]; omega
    · have e : n + 1 = (n % c + 1) + c * (n / c) := by omega
      conv => lhs; rw [e]
      rw [Int.add_mul_emod_self_left]; exact Int.emod_eq_of_lt (by omega) hlt
  · refine .inr ⟨by omega, ?_, ?_⟩
    · have e : n + 1 = 0 + (n / c + 1) * c := by rw [Int.add_mul, Int.one_mul, Int.mul_comm (n / c)]; omega
      rw [e, Int.add_mul_ediv_right _ _ (by omega)]; simp
    · have e : n + 1 = 0 + c * (n / c + 1) := by rw [Int.mul_add, Int.mul_one]; omega
      rw [e, Int.add_mul_emod_self_left]; simp
theorem split_in {d z b o a : Int} (h : GoodG d z b o a) {n : Int} (h0 : 0 ≤ n) (h1 : n < (z - 3) * ((d - 1) * b)) :
    geom_Split.f d z b o a n = some (n / ((d - 1) * b), n % ((d - 1) * b), true) := by
  have hc := cap_bounds h
  have ha := all_bounds h
  have hg := h
  unfold GoodG at hg
  have hq : (d - 1) * b ≤ 4611686018427387904 / (z - 3) := by
    rw [Int.le_ediv_iff_mul_le (by omega), Int.mul_comm]; omega
  have hd := Int.ediv_le_self ((d - 1) * b) h0
  have hd0 := Int.ediv_nonneg h0 (show 0 ≤ (d - 1) * b by omega)
  unfold geom_Split.f
  rw [zones_yes h, capacity_yes h]; simp only [Option.bind_some]
  rw [mul_yes (by omega) (by omega) hq]; simp only [Option.bind_some]
  rw [w64 (n := (z - 3) * ((d - 1) * b) - 1) (by omega) (by omega), within_eq, decide_eq_true (by omega)]
  simp only [Option.bind_some, if_true]
  have hle : n / ((d - 1) * b) ≤ n := Int.ediv_le_self _ h0
  rw [if_neg (by omega), if_neg (by omega), tdiv_pos h0, tmod_pos h0, w64 (by omega) (by omega)]
theorem split_out {d z b o a : Int} (h : GoodG d z b o a) {n : Int} (h0 : ¬ (0 ≤ n ∧ n < (z - 3) * ((d - 1) * b))) : geom_Split.f d z b o a n = some (0, 0, false) := by
  have hc := cap_bounds h
  have ha := all_bounds h
  have hg := h
  unfold GoodG at hg
  have hq : (d - 1) * b ≤ 4611686018427387904 / (z - 3) := by
    rw [Int.le_ediv_iff_mul_le (by omega), Int.mul_comm]; omega
  unfold geom_Split.f
  rw [zones_yes h, capacity_yes h]; simp only [Option.bind_some]
  rw [mul_yes (by omega) (by omega) hq]; simp only [Option.bind_some]
  rw [w64 (n := (z - 3) * ((d - 1) * b) - 1) (by omega) (by omega), within_eq, decide_eq_false (by omega)]
  simp
theorem split_no {d z b o a : Int} (h : ¬ GoodG d z b o a) (n : Int) : geom_Split.f d z b o a n = some (0, 0, false) := by
  unfold geom_Split.f
  rw [zones_no h, capacity_no h]; simp only [Option.bind_some]
  rw [mul_zero (by decide)]; simp only [Option.bind_some]
  rw [w64 (n := 0 - 1) (by decide) (by decide), within_eq, decide_eq_false (by omega)]
  simp
theorem GeomNext : corbellaw04_GeomNext.Pure := by
  intro d z b o a n hd hz hb ho ha hn
  refine ⟨1, ?_⟩
  unfold corbellaw04_GeomNext.f
  rw [speaks04]
  simp only [Option.bind_some, if_true]
  by_cases h : GoodG d z b o a
  · rw [good_yes h, zones_yes h, capacity_yes h]
    simp only [Option.bind_some, if_true]
    have hc := cap_bounds h
    have hall := all_bounds h
    have hg := h
    unfold GoodG at hg
    rw [w64 (n := (z - 3) * ((d - 1) * b)) (by omega) (by omega), w64 (n := (z - 3) * ((d - 1) * b) - 1) (by omega) (by omega), if_neg (by omega)]
    have t1 : -((z - 3) * ((d - 1) * b) - 1) < Int.tmod n ((z - 3) * ((d - 1) * b) - 1) := Int.lt_tmod_of_pos _ (by omega)
    have t2 : Int.tmod n ((z - 3) * ((d - 1) * b) - 1) < (z - 3) * ((d - 1) * b) - 1 := Int.tmod_lt_of_pos _ (by omega)
    rw [w64 (n := Int.tmod n ((z - 3) * ((d - 1) * b) - 1) + (z - 3) * ((d - 1) * b)) (by omega) (by omega), w64 (n := Int.tmod n ((z - 3) * ((d - 1) * b) - 1) + (z - 3) * ((d - 1) * b) - 1) (by omega) (by omega), tmod_pos (by omega)]
    generalize hm : (Int.tmod n ((z - 3) * ((d - 1) * b) - 1) + (z - 3) * ((d - 1) * b) - 1) % ((z - 3) * ((d - 1) * b) - 1) = m
    have m0 : 0 ≤ m := by rw [← hm]; exact Int.emod_nonneg _ (by omega)
    have m1 : m < (z - 3) * ((d - 1) * b) - 1 := by rw [← hm]; exact Int.emod_lt_of_pos _ (by omega)
    clear hm t1 t2
    rw [w64 (n := m + 1) (by omega) (by omega), split_in h m0 (by omega), split_in h (show 0 ≤ m + 1 by omega) (by omega)]
    simp only [Option.bind_some, if_true, corbellaw04_GeomNext.j0]
    rw [if_neg (by decide)]
    have zb : ∀ q : Int, 0 ≤ q → q < (z - 3) * ((d - 1) * b) → InZB d z b (q / ((d - 1) * b)) (q % ((d - 1) * b)) ∧ q / ((d - 1) * b) ≤ 100 := by
      intro q q0 q1
      have e1 : q / ((d - 1) * b) < z - 3 := Int.ediv_lt_of_lt_mul (by omega) q1
      have e2 := Int.ediv_nonneg q0 (show 0 ≤ (d - 1) * b by omega)
      have e3 := Int.emod_nonneg q (show (d - 1) * b ≠ 0 by omega)
      have e4 := Int.emod_lt_of_pos q (show 0 < (d - 1) * b by omega)
      exact ⟨⟨e2, by omega, e3, by omega⟩, by omega⟩
    have z1 := zb m m0 (by omega)
    have z2 := zb (m + 1) (by omega) (by omega)
    rw [place_in h z1.1, place_in h z2.1]
    simp only [Option.bind_some]
    have hzz := z1.1
    unfold InZB at hzz
    rcases div_step (n := m) (c := (d - 1) * b) (by omega) m0 with ⟨h1, h2, h3⟩ | ⟨h1, h2, h3⟩
    · rw [h2, h3, if_pos rfl, w64 (n := m % ((d - 1) * b) + 1) (by omega) (by omega), if_pos rfl]
      generalize hz' : m / ((d - 1) * b) = zone at hzz ⊢
      generalize hb' : m % ((d - 1) * b) = blk at hzz h1 ⊢
      have hr := row_bounds (d := d) (b := b) (block := blk) (by omega) hzz.2.2.1 hzz.2.2.2
      have hslot : 0 ≤ slotOf d zone (blk / (d - 1)) (blk % (d - 1)) ∧ slotOf d zone (blk / (d - 1)) (blk % (d - 1)) < d := ⟨Int.emod_nonneg _ (by omega), Int.emod_lt_of_pos _ (by omega)⟩
      rcases div_step (n := blk) (c := d - 1) (by omega) hzz.2.2.1 with ⟨k1, k2, k3⟩ | ⟨k1, k2, k3⟩
      · rw [k2, k3, if_pos rfl, if_neg (by omega), w64 (by omega) (by omega), tmod_pos (by omega), if_pos]
        unfold slotOf
        rw [Int.emod_add_emod]
        congr 1; omega
      · rw [k2, k3, if_neg (by omega), w64 (n := blk / (d - 1) + 1) (by omega) (by omega), if_pos rfl, w64 (n := d - 1) (by omega) (by omega), if_neg (by omega), tmod_pos (by omega), k3]
        rfl
    · rw [h2, h3, if_neg (by omega), w64 (n := m / ((d - 1) * b) + 1) (by omega) (by omega), if_pos rfl, if_pos rfl, capacity_yes h]
      simp only [Option.bind_some]
      rw [w64 (n := (d - 1) * b - 1) (by omega) (by omega)]
      congr 1
      rw [beq_iff_eq]; omega
  · rw [good_no h]
    simp
end Go.Proofs.Ytkokbcijgikkgaa.Pure
