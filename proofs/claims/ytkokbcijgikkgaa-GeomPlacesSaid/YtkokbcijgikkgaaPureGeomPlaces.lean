/- GeomPlaces: the pure statement, over numbers and lists alone; no conditions. -/
import Derived.Test.YtkokbcijgikkgaaStatGeomPlaces
set_option linter.unusedVariables false
set_option linter.unusedSimpArgs false
namespace Go.Proofs.Ytkokbcijgikkgaa.Pure
open Go.RowKit Go.Proofs.Ytkokbcijgikkgaa.PGeomPlaces Go.Proofs.YtkokbcijgikkgaaW.PrintWords Go.Proofs.YtkokbcijgikkgaaW.PrintLast Go.Proofs.YtkokbcijgikkgaaW.PrintMore
/-! ### whole numbers -/
theorem wf_i64 {n : Int} (h : (Lit.int .i64 n).wf = true) : -9223372036854775808 ≤ n ∧ n ≤ 9223372036854775807 := by
  simpa [Lit.wf, IntKind.min, IntKind.max, IntKind.signed, IntKind.bits] using h
theorem w64 {n : Int} (h0 : -9223372036854775808 ≤ n) (h1 : n ≤ 9223372036854775807) : wrap64 n = n := by unfold wrap64; omega
theorem tdiv_pos {a b : Int} (ha : 0 ≤ a) : Int.tdiv a b = a / b := Int.tdiv_eq_ediv_of_nonneg ha
theorem tmod_pos {a b : Int} (ha : 0 ≤ a) : Int.tmod a b = a % b := Int.tmod_eq_emod_of_nonneg ha

/-! ### geometries -/
def GoodG (d z b o a : Int) : Prop := 3 ≤ d ∧ d ≤ 16 ∧ 5 ≤ z ∧ z ≤ 64 ∧ 4 ≤ b ∧ b ≤ 256 ∧ 1 ≤ o ∧ o ≤ a ∧ a ≤ z
instance (d z b o a : Int) : Decidable (GoodG d z b o a) := by unfold GoodG; infer_instance

theorem within_eq (n lo hi : Int) : geom_within.f n lo hi = some (decide (lo ≤ n ∧ n ≤ hi)) := by
  unfold geom_within.f
  by_cases h : lo ≤ n
  · rw [if_pos h]; simp [h]
  · rw [if_neg h]; simp [h]

theorem good_eq (d z b o a : Int) : geom_Good.f d z b o a = some (decide (GoodG d z b o a)) := by
  unfold geom_Good.f GoodG
  simp only [within_eq, Option.bind_some]
  by_cases h1 : 3 ≤ d ∧ d ≤ 16
  · by_cases h2 : 5 ≤ z ∧ z ≤ 64
    · by_cases h3 : 4 ≤ b ∧ b ≤ 256
      · by_cases h4 : 1 ≤ o ∧ o ≤ a
        · simp [h1, h2, h3, h4]
        · rw [if_pos (decide_eq_true h1), if_pos (decide_eq_true h2), if_pos (decide_eq_true h3), decide_eq_false h4, if_neg (by decide)]
          congr 1; symm; apply decide_eq_false; omega
      · rw [if_pos (decide_eq_true h1), if_pos (decide_eq_true h2), decide_eq_false h3, if_neg (by decide)]
        congr 1; symm; apply decide_eq_false; omega
    · rw [if_pos (decide_eq_true h1), decide_eq_false h2, if_neg (by decide)]
      congr 1; symm; apply decide_eq_false; omega
  · rw [decide_eq_false h1, if_neg (by decide)]
    congr 1; symm; apply decide_eq_false; omega

theorem good_yes {d z b o a : Int} (h : GoodG d z b o a) : geom_Good.f d z b o a = some true := by rw [good_eq, decide_eq_true h]
theorem good_no {d z b o a : Int} (h : ¬ GoodG d z b o a) : geom_Good.f d z b o a = some false := by rw [good_eq, decide_eq_false h]

theorem zones_yes {d z b o a : Int} (h : GoodG d z b o a) : geom_Zones.f d z b o a = some (z - 3) := by
  unfold geom_Zones.f
  rw [good_yes h]; simp only [Option.bind_some, if_true]
  unfold GoodG at h
  rw [w64 (n := z - 2) (by omega) (by omega), w64 (by omega) (by omega)]
  congr 1; omega
theorem zones_no {d z b o a : Int} (h : ¬ GoodG d z b o a) : geom_Zones.f d z b o a = some 0 := by
  unfold geom_Zones.f
  rw [good_no h]; simp

theorem cap_bounds {d z b o a : Int} (h : GoodG d z b o a) : 8 ≤ (d - 1) * b ∧ (d - 1) * b ≤ 3840 := by
  unfold GoodG at h
  have h1 : (2 : Int) * 4 ≤ (d - 1) * b := Int.mul_le_mul (by omega) (by omega) (by omega) (by omega)
  have h2 : (d - 1) * b ≤ 15 * 256 := Int.mul_le_mul (by omega) (by omega) (by omega) (by omega)
  omega

theorem capacity_yes {d z b o a : Int} (h : GoodG d z b o a) : geom_Capacity.f d z b o a = some ((d - 1) * b) := by
  unfold geom_Capacity.f
  rw [good_yes h]; simp only [Option.bind_some, if_true]
  have hc := cap_bounds h
  unfold GoodG at h
  rw [w64 (n := d - 1) (by omega) (by omega), w64 (by omega) (by omega)]
theorem capacity_no {d z b o a : Int} (h : ¬ GoodG d z b o a) : geom_Capacity.f d z b o a = some 0 := by
  unfold geom_Capacity.f
  rw [good_no h]; simp

theorem there_yes {d z b o a : Int} (h : GoodG d z b o a) (zone row : Int) : geom_there.f d z b o a zone row = some (decide (0 ≤ zone ∧ zone ≤ z - 4 ∧ 0 ≤ row ∧ row ≤ b - 1)) := by
  unfold geom_there.f
  rw [zones_yes h]; simp only [Option.bind_some]
  unfold GoodG at h
  rw [w64 (n := z - 3 - 1) (by omega) (by omega), w64 (n := b - 1) (by omega) (by omega)]
  simp only [within_eq, Option.bind_some]
  by_cases h1 : 0 ≤ zone ∧ zone ≤ z - 3 - 1
  · rw [if_pos (decide_eq_true h1)]
    congr 1
    by_cases h2 : 0 ≤ row ∧ row ≤ b - 1
    · rw [decide_eq_true h2, decide_eq_true]; omega
    · rw [decide_eq_false h2, decide_eq_false]; omega
  · rw [decide_eq_false h1, if_neg (by decide)]
    congr 1; symm; apply decide_eq_false; omega
theorem there_no {d z b o a : Int} (h : ¬ GoodG d z b o a) (zone row : Int) : geom_there.f d z b o a zone row = some false := by
  unfold geom_there.f
  rw [zones_no h]; simp only [Option.bind_some]
  rw [w64 (n := 0 - 1) (by omega) (by omega)]
  simp only [within_eq, Option.bind_some]
  rw [decide_eq_false (by omega), if_neg (by decide)]

def InZR (z b zone row : Int) : Prop := 0 ≤ zone ∧ zone ≤ z - 4 ∧ 0 ≤ row ∧ row ≤ b - 1
instance (z b zone row : Int) : Decidable (InZR z b zone row) := by unfold InZR; infer_instance

theorem parity_yes {d z b o a : Int} (h : GoodG d z b o a) {zone row : Int} (hi : InZR z b zone row) : geom_Parity.f d z b o a zone row = some ((zone + row) % d) := by
  unfold geom_Parity.f
  rw [there_yes h, decide_eq_true (show 0 ≤ zone ∧ zone ≤ z - 4 ∧ 0 ≤ row ∧ row ≤ b - 1 from hi)]; simp only [Option.bind_some, if_true]
  unfold GoodG at h; unfold InZR at hi
  rw [if_neg (by omega), w64 (by omega) (by omega), tmod_pos (by omega)]
theorem parity_out {d z b o a : Int} (h : GoodG d z b o a) {zone row : Int} (hi : ¬ InZR z b zone row) : geom_Parity.f d z b o a zone row = some (-1) := by
  unfold geom_Parity.f
  rw [there_yes h, decide_eq_false (show ¬ (0 ≤ zone ∧ zone ≤ z - 4 ∧ 0 ≤ row ∧ row ≤ b - 1) from hi)]; simp
theorem parity_no {d z b o a : Int} (h : ¬ GoodG d z b o a) (zone row : Int) : geom_Parity.f d z b o a zone row = some (-1) := by
  unfold geom_Parity.f
  rw [there_no h]; simp

def InZB (d z b zone block : Int) : Prop := 0 ≤ zone ∧ zone ≤ z - 4 ∧ 0 ≤ block ∧ block ≤ (d - 1) * b - 1
instance (d z b zone block : Int) : Decidable (InZB d z b zone block) := by unfold InZB; infer_instance

theorem row_bounds {d b block : Int} (hd : 3 ≤ d) (h0 : 0 ≤ block) (h1 : block ≤ (d - 1) * b - 1) : 0 ≤ block / (d - 1) ∧ block / (d - 1) ≤ b - 1 ∧ 0 ≤ block % (d - 1) ∧ block % (d - 1) < d - 1 := by
  refine ⟨Int.ediv_nonneg h0 (by omega), ?_, Int.emod_nonneg _ (by omega), Int.emod_lt_of_pos _ (by omega)⟩
  have h2 : block / (d - 1) < b := by
    apply Int.ediv_lt_of_lt_mul (by omega)
    rw [Int.mul_comm]; omega
  omega

def slotOf (d zone row k : Int) : Int := ((zone + row) % d + 1 + k) % d

theorem place_in {d z b o a : Int} (h : GoodG d z b o a) {zone block : Int} (hi : InZB d z b zone block) :
    geom_Place.f d z b o a zone block = some (block / (d - 1), slotOf d zone (block / (d - 1)) (block % (d - 1)), true) := by
  have hc := cap_bounds h
  have hr := row_bounds (d := d) (b := b) (by unfold GoodG at h; omega) hi.2.2.1 hi.2.2.2
  have hz : InZR z b zone (block / (d - 1)) := ⟨hi.1, hi.2.1, hr.1, hr.2.1⟩
  have hp : 0 ≤ (zone + block / (d - 1)) % d ∧ (zone + block / (d - 1)) % d < d := ⟨Int.emod_nonneg _ (by unfold GoodG at h; omega), Int.emod_lt_of_pos _ (by unfold GoodG at h; omega)⟩
  unfold geom_Place.f
  rw [there_yes h, decide_eq_true (by unfold InZB at hi; unfold GoodG at h; omega)]
  simp only [Option.bind_some, if_true]
  rw [capacity_yes h]; simp only [Option.bind_some]
  have hg := h
  unfold GoodG at h; unfold InZB at hi
  rw [w64 (n := (d - 1) * b - 1) (by omega) (by omega), within_eq, decide_eq_true (by omega)]
  simp only [Option.bind_some, if_true]
  rw [w64 (n := d - 1) (by omega) (by omega), if_neg (by omega), tdiv_pos (by omega), w64 (n := block / (d - 1)) (by omega) (by omega), parity_yes hg hz]
  simp only [Option.bind_some]
  rw [if_neg (by omega), tmod_pos (a := block) (by omega), w64 (n := (zone + block / (d - 1)) % d + 1) (by omega) (by omega), w64 (by omega) (by omega), tmod_pos (by omega)]
  rfl
theorem place_out {d z b o a : Int} (h : GoodG d z b o a) {zone block : Int} (hi : ¬ InZB d z b zone block) : geom_Place.f d z b o a zone block = some (0, 0, false) := by
  have hc := cap_bounds h
  unfold geom_Place.f
  rw [there_yes h]; simp only [Option.bind_some]
  by_cases hz : 0 ≤ zone ∧ zone ≤ z - 4 ∧ (0 : Int) ≤ 0 ∧ 0 ≤ b - 1
  · rw [if_pos (decide_eq_true hz), capacity_yes h]; simp only [Option.bind_some]
    rw [w64 (n := (d - 1) * b - 1) (by omega) (by omega), within_eq, decide_eq_false (by unfold InZB at hi; omega)]
    simp
  · rw [decide_eq_false hz, if_neg (by decide)]
theorem place_no {d z b o a : Int} (h : ¬ GoodG d z b o a) (zone block : Int) : geom_Place.f d z b o a zone block = some (0, 0, false) := by
  unfold geom_Place.f
  rw [there_no h]; simp
theorem speaks04 : corbellaw04_speaks.f = some true := by
  have hg : GoodG 3 5 4 1 1 := by decide
  unfold corbellaw04_speaks.f
  rw [place_in hg (zone := 0) (block := 2) (by decide), good_yes hg, capacity_yes hg, zones_yes hg]
  decide
/-! ### what lies at a spot -/
def kOf (d p drive : Int) : Int := if p < drive then drive - p - 1 else drive - p - 1 + d
def sOf (d p k : Int) : Int := if p + 1 + k < d then p + 1 + k else p + 1 + k - d
theorem kOf_mod {d p drive : Int} (h0 : 0 ≤ p) (h1 : p < d) (h2 : 0 ≤ drive) (h3 : drive < d) (h4 : drive ≠ p) : (drive - p - 1 + d) % d = kOf d p drive := by
  unfold kOf
  split
  · rw [Int.add_emod_right]; exact Int.emod_eq_of_lt (by omega) (by omega)
  · exact Int.emod_eq_of_lt (by omega) (by omega)
theorem kOf_range {d p drive : Int} (h0 : 0 ≤ p) (h1 : p < d) (h2 : 0 ≤ drive) (h3 : drive < d) (h4 : drive ≠ p) : 0 ≤ kOf d p drive ∧ kOf d p drive ≤ d - 2 := by
  unfold kOf; split <;> omega
theorem sOf_mod {d p k : Int} (h0 : 0 ≤ p) (h1 : p < d) (h2 : 0 ≤ k) (h3 : k ≤ d - 2) : (p + 1 + k) % d = sOf d p k := by
  unfold sOf
  split
  · exact Int.emod_eq_of_lt (by omega) (by omega)
  · rw [show p + 1 + k = (p + 1 + k - d) + d by omega, Int.add_emod_right, show p + 1 + k - d + d - d = p + 1 + k - d by omega]; exact Int.emod_eq_of_lt (by omega) (by omega)
theorem sOf_range {d p k : Int} (h0 : 0 ≤ p) (h1 : p < d) (h2 : 0 ≤ k) (h3 : k ≤ d - 2) : 0 ≤ sOf d p k ∧ sOf d p k < d ∧ sOf d p k ≠ p := by
  unfold sOf; split <;> omega
theorem sOf_kOf {d p drive : Int} (h0 : 0 ≤ p) (h1 : p < d) (h2 : 0 ≤ drive) (h3 : drive < d) (h4 : drive ≠ p) : sOf d p (kOf d p drive) = drive := by
  unfold sOf kOf; split <;> split <;> omega
theorem kOf_sOf {d p k : Int} (h0 : 0 ≤ p) (h1 : p < d) (h2 : 0 ≤ k) (h3 : k ≤ d - 2) : kOf d p (sOf d p k) = k := by
  unfold sOf kOf; split <;> split <;> omega
theorem par_range (d zone row : Int) (hd : 3 ≤ d) : 0 ≤ (zone + row) % d ∧ (zone + row) % d < d := ⟨Int.emod_nonneg _ (by omega), Int.emod_lt_of_pos _ (by omega)⟩

theorem slotOf_eq {d zone row k : Int} (hd : 3 ≤ d) (h2 : 0 ≤ k) (h3 : k ≤ d - 2) : slotOf d zone row k = sOf d ((zone + row) % d) k :=
  sOf_mod (par_range d zone row hd).1 (par_range d zone row hd).2 h2 h3

theorem mul_row {d b row : Int} (hd : 3 ≤ d) (h0 : 0 ≤ row) (h1 : row ≤ b - 1) : 0 ≤ row * (d - 1) ∧ row * (d - 1) ≤ (d - 1) * b - (d - 1) := by
  refine ⟨Int.mul_nonneg h0 (by omega), ?_⟩
  have := Int.mul_le_mul_of_nonneg_right h1 (show 0 ≤ d - 1 by omega)
  rw [Int.sub_mul, Int.one_mul, Int.mul_comm b] at this
  exact this
theorem row_div {d row k : Int} (hd : 3 ≤ d) (h2 : 0 ≤ k) (h3 : k ≤ d - 2) : (row * (d - 1) + k) / (d - 1) = row ∧ (row * (d - 1) + k) % (d - 1) = k := by
  constructor
  · rw [Int.add_comm, Int.add_mul_ediv_right _ _ (by omega), Int.ediv_eq_zero_of_lt h2 (by omega)]; omega
  · rw [Int.add_comm, Int.add_mul_emod_self_right]; exact Int.emod_eq_of_lt h2 (by omega)

theorem back_in {d z b o a : Int} (h : GoodG d z b o a) {zone row drive : Int} (hi : InZR z b zone row) (h2 : 0 ≤ drive) (h3 : drive < d) (h4 : drive ≠ (zone + row) % d) :
    geom_Back.f d z b o a zone row drive = some (row * (d - 1) + kOf d ((zone + row) % d) drive, true) := by
  have hg := h
  unfold GoodG at hg
  have hp := par_range d zone row (by omega)
  have hk := kOf_range hp.1 hp.2 h2 h3 h4
  have hm := mul_row (d := d) (b := b) (row := row) (by omega) hi.2.2.1 hi.2.2.2
  have hc := cap_bounds h
  unfold geom_Back.f
  rw [parity_yes h hi]; simp only [Option.bind_some]
  rw [if_neg (by omega), if_neg (by omega), w64 (n := d - 1) (by omega) (by omega), within_eq, decide_eq_true (by omega)]
  simp only [Option.bind_some, if_true]
  rw [if_neg (by omega), w64 (n := drive - (zone + row) % d) (by omega) (by omega), w64 (n := drive - (zone + row) % d - 1) (by omega) (by omega), w64 (n := drive - (zone + row) % d - 1 + d) (by omega) (by omega), tmod_pos (by omega), kOf_mod hp.1 hp.2 h2 h3 h4, w64 (n := row * (d - 1)) (by omega) (by omega), w64 (by omega) (by omega)]
theorem back_par {d z b o a : Int} (h : GoodG d z b o a) {zone row : Int} (hi : InZR z b zone row) : geom_Back.f d z b o a zone row ((zone + row) % d) = some (0, false) := by
  have hg := h
  unfold GoodG at hg
  have hp := par_range d zone row (by omega)
  unfold geom_Back.f
  rw [parity_yes h hi]; simp only [Option.bind_some]
  rw [if_neg (by omega), if_pos trivial]
theorem back_drive {d z b o a : Int} (h : GoodG d z b o a) {zone row drive : Int} (hi : InZR z b zone row) (h2 : drive < 0 ∨ d ≤ drive) : geom_Back.f d z b o a zone row drive = some (0, false) := by
  have hg := h
  unfold GoodG at hg
  have hp := par_range d zone row (by omega)
  unfold geom_Back.f
  rw [parity_yes h hi]; simp only [Option.bind_some]
  rw [if_neg (by omega), if_neg (by omega), w64 (n := d - 1) (by omega) (by omega), within_eq, decide_eq_false (by omega)]
  simp
theorem back_out {d z b o a : Int} (h : GoodG d z b o a) {zone row : Int} (hi : ¬ InZR z b zone row) (drive : Int) : geom_Back.f d z b o a zone row drive = some (0, false) := by
  unfold geom_Back.f
  rw [parity_out h hi]; simp
theorem back_no {d z b o a : Int} (h : ¬ GoodG d z b o a) (zone row drive : Int) : geom_Back.f d z b o a zone row drive = some (0, false) := by
  unfold geom_Back.f
  rw [parity_no h]; simp
/-! ### the document's geometry -/
theorem rgood_eq (d z b o a : Int) : corbelref04_Good.f d z b o a = some (decide (GoodG d z b o a)) := by
  unfold corbelref04_Good.f GoodG
  by_cases h1 : d < 3
  · rw [if_pos h1]; congr 1; symm; apply decide_eq_false; omega
  by_cases h2 : d > 16
  · rw [if_neg h1, if_pos h2]; congr 1; symm; apply decide_eq_false; omega
  by_cases h3 : z < 5
  · rw [if_neg h1, if_neg h2, if_pos h3]; congr 1; symm; apply decide_eq_false; omega
  by_cases h4 : z > 64
  · rw [if_neg h1, if_neg h2, if_neg h3, if_pos h4]; congr 1; symm; apply decide_eq_false; omega
  by_cases h5 : b < 4
  · rw [if_neg h1, if_neg h2, if_neg h3, if_neg h4, if_pos h5]; congr 1; symm; apply decide_eq_false; omega
  by_cases h6 : b > 256
  · rw [if_neg h1, if_neg h2, if_neg h3, if_neg h4, if_neg h5, if_pos h6]; congr 1; symm; apply decide_eq_false; omega
  rw [if_neg h1, if_neg h2, if_neg h3, if_neg h4, if_neg h5, if_neg h6]
  by_cases h7 : o > 0
  · by_cases h8 : o ≤ a
    · rw [if_pos h7, if_pos h8]
      congr 1
      by_cases h9 : a ≤ z
      · rw [decide_eq_true h9]; symm; apply decide_eq_true; omega
      · rw [decide_eq_false h9]; symm; apply decide_eq_false; omega
    · rw [if_pos h7, if_neg h8]; congr 1; symm; apply decide_eq_false; omega
  · rw [if_neg h7]; congr 1; symm; apply decide_eq_false; omega
theorem rgood_yes {d z b o a : Int} (h : GoodG d z b o a) : corbelref04_Good.f d z b o a = some true := by rw [rgood_eq, decide_eq_true h]
theorem rgood_no {d z b o a : Int} (h : ¬ GoodG d z b o a) : corbelref04_Good.f d z b o a = some false := by rw [rgood_eq, decide_eq_false h]

theorem rdrive_loop {d z b o a : Int} (hd : 3 ≤ d) (hd2 : d ≤ 16) (kk : Int) (hk1 : kk ≤ 100000) (n : Nat) :
    ∀ (f : Nat) (cur i : Int), 0 ≤ cur → cur < d → 0 ≤ i → i ≤ kk + 1 → kk + 1 - i = n → n < f → corbelref04_Drive.l0 f kk cur i d z b o a = some ((cur + (kk + 1 - i)) % d) := by
  induction n with
  | zero =>
    intro f cur i h0 h1 h2 h3 hn hf
    obtain ⟨f, rfl⟩ : ∃ q, f = q + 1 := ⟨f - 1, by omega⟩
    simp only [corbelref04_Drive.l0]
    rw [if_neg (by omega), show cur + (kk + 1 - i) = cur by omega, Int.emod_eq_of_lt h0 h1]
  | succ n ih =>
    intro f cur i h0 h1 h2 h3 hn hf
    obtain ⟨f, rfl⟩ : ∃ q, f = q + 1 := ⟨f - 1, by omega⟩
    simp only [corbelref04_Drive.l0]
    rw [if_pos (by omega), w64 (n := cur + 1) (by omega) (by omega), w64 (n := i + 1) (by omega) (by omega)]
    by_cases hc : cur + 1 = d
    · rw [if_pos hc, ih f 0 (i + 1) (by omega) (by omega) (by omega) (by omega) (by omega) (by omega)]
      congr 1
      rw [show cur + (kk + 1 - i) = (0 + (kk + 1 - (i + 1))) + d by omega, Int.add_emod_right]
    · rw [if_neg hc, ih f (cur + 1) (i + 1) (by omega) (by omega) (by omega) (by omega) (by omega) (by omega)]
      congr 2; omega
theorem rdrive_eq {d z b o a : Int} (hd : 3 ≤ d) (hd2 : d ≤ 16) {zone row kk : Int} (hz : 0 ≤ zone) (hz2 : zone ≤ 100000) (hr : 0 ≤ row) (hr2 : row ≤ 100000) (hk : 0 ≤ kk) (hk2 : kk ≤ 100000) (f : Nat) (hf : kk.toNat + 1 < f) :
    corbelref04_Drive.f f d z b o a zone row kk = some (slotOf d zone row kk) := by
  unfold corbelref04_Drive.f
  have hp := par_range d zone row hd
  rw [if_neg (by omega), w64 (n := zone + row) (by omega) (by omega), tmod_pos (by omega), rdrive_loop hd hd2 kk hk2 (kk.toNat + 1) f _ 0 hp.1 hp.2 (by omega) (by omega) (by omega) (by omega)]
  unfold slotOf
  congr 2; omega

theorem rplace_loop {d z b o a : Int} (hd : 3 ≤ d) (hd2 : d ≤ 16) (zone : Int) (hz : 0 ≤ zone) (hz2 : zone ≤ 64) (n : Nat) :
    ∀ (f : Nat) (block row : Int), 0 ≤ block → block ≤ 10000 → 0 ≤ row → row + block / (d - 1) ≤ 10000 → block / (d - 1) = n → n + 20 < f →
      corbelref04_Place.l0 f zone block row d z b o a = some (row + block / (d - 1), slotOf d zone (row + block / (d - 1)) (block % (d - 1)), true) := by
  induction n with
  | zero =>
    intro f block row h0 h1 h2 h3 hn hf
    obtain ⟨f, rfl⟩ : ∃ q, f = q + 1 := ⟨f - 1, by omega⟩
    have hdm := Int.emod_add_mul_ediv block (d - 1)
    have hm := Int.emod_lt_of_pos block (show 0 < d - 1 by omega)
    rw [hn] at hdm
    have hb : block % (d - 1) = block := by simpa using hdm
    simp only [corbelref04_Place.l0]
    rw [w64 (n := d - 1) (by omega) (by omega), if_neg (by omega), rdrive_eq hd hd2 hz (by omega) h2 (by omega) h0 (by omega) f (by omega), hn, hb]
    simp
  | succ n ih =>
    intro f block row h0 h1 h2 h3 hn hf
    obtain ⟨f, rfl⟩ : ∃ q, f = q + 1 := ⟨f - 1, by omega⟩
    have hge : d - 1 ≤ block := by
      rcases Int.lt_or_le block (d - 1) with hlt | hge
      · rw [Int.ediv_eq_zero_of_lt h0 hlt] at hn; omega
      · exact hge
    have hq : block / (d - 1) = (block - (d - 1)) / (d - 1) + 1 := by
      conv => lhs; rw [show block = (block - (d - 1)) + 1 * (d - 1) by omega]
      rw [Int.add_mul_ediv_right _ _ (by omega)]
    have hr : block % (d - 1) = (block - (d - 1)) % (d - 1) := by
      conv => lhs; rw [show block = (block - (d - 1)) + (d - 1) by omega]
      rw [Int.add_emod_right]
    simp only [corbelref04_Place.l0]
    rw [w64 (n := d - 1) (by omega) (by omega), if_pos (by omega), w64 (n := block - (d - 1)) (by omega) (by omega), w64 (n := row + 1) (by omega) (by omega), ih f (block - (d - 1)) (row + 1) (by omega) (by omega) (by omega) (by omega) (by omega) (by omega), hq, hr]
    rw [show row + 1 + (block - (d - 1)) / (d - 1) = row + ((block - (d - 1)) / (d - 1) + 1) by omega]

theorem rplace_eq (d z b o a zone block : Int) (hw : -9223372036854775808 ≤ block ∧ block ≤ 9223372036854775807) (f : Nat) (hf : 300 ≤ f) : corbelref04_Place.f f d z b o a zone block = geom_Place.f d z b o a zone block := by
  obtain ⟨f, rfl⟩ : ∃ q, f = q + 1 := ⟨f - 1, by omega⟩
  unfold corbelref04_Place.f
  by_cases h : GoodG d z b o a
  · rw [rgood_yes h]
    have hg := h
    unfold GoodG at hg
    have hc := cap_bounds h
    simp only [Option.bind_some, if_true]
    by_cases hi : InZB d z b zone block
    · have hr := row_bounds (d := d) (b := b) (by omega) hi.2.2.1 hi.2.2.2
      rw [place_in h hi]
      unfold InZB at hi
      rw [if_neg (by omega), w64 (n := z - 4) (by omega) (by omega), if_neg (by omega), if_neg (by omega)]
      simp only [corbelref04_Place.j0]
      rw [w64 (n := d - 1) (by omega) (by omega), w64 (n := (d - 1) * b) (by omega) (by omega), decide_eq_false (by omega), if_neg (by decide)]
      rw [rplace_loop (by omega) (by omega) zone (by omega) (by omega) (block / (d - 1)).toNat f block 0 (by omega) (by omega) (by omega) (by omega) (by omega) (by omega)]
      simp
    · rw [place_out h hi]
      unfold InZB at hi
      rw [w64 (n := z - 4) (by omega) (by omega), w64 (n := d - 1) (by omega) (by omega), w64 (n := (d - 1) * b) (by omega) (by omega)]
      simp only [corbelref04_Place.j0, if_true]
      by_cases h1 : zone < 0
      · rw [if_pos h1]
      by_cases h2 : zone > z - 4
      · rw [if_neg h1, if_pos h2]
      by_cases h3 : block < 0
      · rw [if_neg h1, if_neg h2, if_pos h3]
      rw [if_neg h1, if_neg h2, if_neg h3, decide_eq_true (by omega)]
      simp
  · rw [rgood_no h, place_no h]
    simp [corbelref04_Place.j0]

theorem slot_inj {d zone row k k' : Int} (hd : 3 ≤ d) (h0 : 0 ≤ k) (h1 : k ≤ d - 2) (h2 : 0 ≤ k') (h3 : k' ≤ d - 2) (h : slotOf d zone row k = slotOf d zone row k') : k = k' := by
  have hp := par_range d zone row hd
  rw [slotOf_eq hd h0 h1, slotOf_eq hd h2 h3] at h
  rw [← kOf_sOf hp.1 hp.2 h0 h1, h, kOf_sOf hp.1 hp.2 h2 h3]

theorem rback_loop {d z b o a : Int} (h : GoodG d z b o a) {zone row drive : Int} (hi : InZR z b zone row) (n : Nat) :
    ∀ (f : Nat) (k : Int), 0 ≤ k → k ≤ d - 1 → d - 1 - k = n → n + 301 < f → (∀ j : Int, 0 ≤ j → j < k → slotOf d zone row j ≠ drive) →
      corbelref04_Back.l0 f zone row drive k d z b o a = geom_Back.f d z b o a zone row drive := by
  have hg := h
  unfold GoodG at hg
  have hm := mul_row (d := d) (b := b) (row := row) (by omega) hi.2.2.1 hi.2.2.2
  have hc := cap_bounds h
  have hp := par_range d zone row (by omega)
  induction n with
  | zero =>
    intro f k h0 h1 hn hf hno
    obtain ⟨f, rfl⟩ : ∃ q, f = q + 1 := ⟨f - 1, by omega⟩
    simp only [corbelref04_Back.l0]
    rw [w64 (n := d - 1) (by omega) (by omega), if_neg (by omega)]
    by_cases hr : drive < 0 ∨ d ≤ drive
    · rw [back_drive h hi hr]
    · by_cases hpar : drive = (zone + row) % d
      · rw [hpar, back_par h hi]
      · exfalso
        have hk := kOf_range hp.1 hp.2 (show 0 ≤ drive by omega) (show drive < d by omega) hpar
        refine hno (kOf d ((zone + row) % d) drive) hk.1 (by omega) ?_
        rw [slotOf_eq (by omega) hk.1 hk.2, sOf_kOf hp.1 hp.2 (by omega) (by omega) hpar]
  | succ n ih =>
    intro f k h0 h1 hn hf hno
    obtain ⟨f, rfl⟩ : ∃ q, f = q + 1 := ⟨f - 1, by omega⟩
    have hrd := row_div (d := d) (row := row) (by omega) h0 (show k ≤ d - 2 by omega)
    have hzb : InZB d z b zone (row * (d - 1) + k) := ⟨hi.1, hi.2.1, by omega, by omega⟩
    simp only [corbelref04_Back.l0]
    rw [w64 (n := d - 1) (by omega) (by omega), if_pos (by omega), w64 (n := row * (d - 1)) (by omega) (by omega), w64 (n := row * (d - 1) + k) (by omega) (by omega), w64 (n := k + 1) (by omega) (by omega), rplace_eq _ _ _ _ _ _ _ (by omega) f (by omega), place_in h hzb, hrd.1, hrd.2]
    simp only [Option.bind_some, if_true]
    by_cases hs : slotOf d zone row k = drive
    · have hs2 := hs
      rw [slotOf_eq (by omega) h0 (by omega)] at hs2
      have hsr := sOf_range hp.1 hp.2 h0 (show k ≤ d - 2 by omega)
      rw [if_pos hs, ← hs2, back_in h hi hsr.1 hsr.2.1 hsr.2.2, kOf_sOf hp.1 hp.2 h0 (by omega)]
    · rw [if_neg hs]
      refine ih f (k + 1) (by omega) (by omega) (by omega) (by omega) ?_
      intro j hj0 hj1
      rcases Int.lt_or_le j k with hlt | hge
      · exact hno j hj0 hlt
      · have : j = k := by omega
        subst this; exact hs

theorem rback_none {d z b o a : Int} (h : GoodG d z b o a) {zone row drive : Int} (hr0 : 0 ≤ row) (hr1 : row < b) (hz : ¬ (0 ≤ zone ∧ zone ≤ z - 4)) (n : Nat) :
    ∀ (f : Nat) (k : Int), 0 ≤ k → k ≤ d - 1 → d - 1 - k = n → n + 301 < f → corbelref04_Back.l0 f zone row drive k d z b o a = some (0, false) := by
  have hg := h
  unfold GoodG at hg
  have hm := mul_row (d := d) (b := b) (row := row) (by omega) hr0 (by omega)
  have hc := cap_bounds h
  induction n with
  | zero =>
    intro f k h0 h1 hn hf
    obtain ⟨f, rfl⟩ : ∃ q, f = q + 1 := ⟨f - 1, by omega⟩
    simp only [corbelref04_Back.l0]
    rw [w64 (n := d - 1) (by omega) (by omega), if_neg (by omega)]
  | succ n ih =>
    intro f k h0 h1 hn hf
    obtain ⟨f, rfl⟩ : ∃ q, f = q + 1 := ⟨f - 1, by omega⟩
    simp only [corbelref04_Back.l0]
    rw [w64 (n := d - 1) (by omega) (by omega), if_pos (by omega), w64 (n := row * (d - 1)) (by omega) (by omega), w64 (n := row * (d - 1) + k) (by omega) (by omega), w64 (n := k + 1) (by omega) (by omega), rplace_eq _ _ _ _ _ _ _ (by omega) f (by omega), place_out h (by unfold InZB; omega)]
    simp only [Option.bind_some]
    rw [if_neg (by decide)]
    exact ih f (k + 1) (by omega) (by omega) (by omega) (by omega)

theorem rback_eq (d z b o a zone row drive : Int) (f : Nat) (hf : 400 ≤ f) : corbelref04_Back.f f d z b o a zone row drive = geom_Back.f d z b o a zone row drive := by
  obtain ⟨f, rfl⟩ : ∃ q, f = q + 1 := ⟨f - 1, by omega⟩
  unfold corbelref04_Back.f
  by_cases h : GoodG d z b o a
  · rw [rgood_yes h]
    have hg := h
    unfold GoodG at hg
    simp only [Option.bind_some, if_true, corbelref04_Back.j0]
    by_cases h1 : row < 0
    · rw [if_pos h1, back_out h (by unfold InZR; omega)]
    · rw [if_neg h1]
      by_cases h2 : row ≥ b
      · rw [decide_eq_true h2, back_out h (by unfold InZR; omega)]; simp
      · rw [decide_eq_false h2, if_neg (by decide)]
        by_cases hz : 0 ≤ zone ∧ zone ≤ z - 4
        · exact rback_loop h ⟨hz.1, hz.2, by omega, by omega⟩ (d - 1).toNat f 0 (by omega) (by omega) (by omega) (by omega) (by intro j h0 h1; omega)
        · rw [rback_none h (by omega) (by omega) hz (d - 1).toNat f 0 (by omega) (by omega) (by omega) (by omega), back_out h (by unfold InZR; omega)]
  · rw [rgood_no h, back_no h]
    simp [corbelref04_Back.j0]
theorem place_some (d z b o a zone block : Int) : ∃ x, geom_Place.f d z b o a zone block = some x := by
  by_cases h : GoodG d z b o a
  · by_cases hi : InZB d z b zone block
    · exact ⟨_, place_in h hi⟩
    · exact ⟨_, place_out h hi⟩
  · exact ⟨_, place_no h _ _⟩
theorem back_some (d z b o a zone row drive : Int) : ∃ x, geom_Back.f d z b o a zone row drive = some x := by
  by_cases h : GoodG d z b o a
  · by_cases hi : InZR z b zone row
    · by_cases hr : drive < 0 ∨ d ≤ drive
      · exact ⟨_, back_drive h hi hr⟩
      · by_cases hp : drive = (zone + row) % d
        · subst hp; exact ⟨_, back_par h hi⟩
        · exact ⟨_, back_in h hi (by omega) (by omega) hp⟩
    · exact ⟨_, back_out h hi _⟩
  · exact ⟨_, back_no h _ _ _⟩

theorem GeomPlaces : corbellaw04_GeomPlaces.Pure := by
  intro d z b o a zone block hd hz hb ho ha hzone hblock
  refine ⟨501, ?_⟩
  unfold corbellaw04_GeomPlaces.f
  rw [speaks04, rplace_eq d z b o a zone block (wf_i64 hblock) 501 (by omega), good_eq, rgood_eq]
  obtain ⟨⟨r, e, ok⟩, hx⟩ := place_some d z b o a zone block
  rw [hx]
  simp only [Option.bind_some, if_true, bne_self_eq_false]
  rw [if_neg (by decide)]
  simp only [corbellaw04_GeomPlaces.j0]
  rw [if_neg (by decide), rback_eq d z b o a zone block e 500 (by omega), rback_eq d z b o a zone r zone 500 (by omega)]
  obtain ⟨⟨x1, x2⟩, h1⟩ := back_some d z b o a zone block e
  obtain ⟨⟨y1, y2⟩, h2⟩ := back_some d z b o a zone r zone
  rw [h1, h2]
  simp
end Go.Proofs.Ytkokbcijgikkgaa.Pure
