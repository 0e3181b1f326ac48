/- PlanSums: the pure statement, over numbers and lists alone; no conditions. -/
import Derived.Test.YtcikcikcjimcjaaStatPlanSums
set_option linter.unusedVariables false
set_option linter.unusedSimpArgs false
namespace Go.Proofs.Ytcikcikcjimcjaa.Pure
open Go.RowKit Go.Proofs.Ytcikcikcjimcjaa.PPlanSums Go.Proofs.YtcikcikcjimcjaaW.PrintWords Go.Proofs.YtcikcikcjimcjaaW.PrintLast Go.Proofs.YtcikcikcjimcjaaW.PrintMore
/-! ### whole numbers -/
theorem wf_i64 {n : Int} (h : (Lit.int .i64 n).wf = true) : -9223372036854775808 ≤ n ∧ n ≤ 9223372036854775807 := by
  simpa [Lit.wf, IntKind.min, IntKind.max, IntKind.signed, IntKind.bits] using h
theorem w64 {n : Int} (h0 : -9223372036854775808 ≤ n) (h1 : n ≤ 9223372036854775807) : wrap64 n = n := by unfold wrap64; omega
theorem w_succ {i : Nat} (h : i ≤ 1000000000000) : wrap64 ((i : Int) + 1) = ((i + 1 : Nat) : Int) := by rw [w64 (by omega) (by omega)]; omega
theorem tdiv_pos {a b : Int} (ha : 0 ≤ a) : Int.tdiv a b = a / b := Int.tdiv_eq_ediv_of_nonneg ha
theorem tmod_pos {a b : Int} (ha : 0 ≤ a) : Int.tmod a b = a % b := Int.tmod_eq_emod_of_nonneg ha
theorem div_step {n c : Int} (hc : 0 < c) (h0 : 0 ≤ n) : (n % c + 1 < c ∧ (n + 1) / c = n / c ∧ (n + 1) % c = n % c + 1) ∨ (n % c + 1 = c ∧ (n + 1) / c = n / c + 1 ∧ (n + 1) % c = 0) := by
  have h1 := Int.emod_add_mul_ediv n c
  have h2 := Int.emod_nonneg n (show c ≠ 0 by omega)
  have h3 := Int.emod_lt_of_pos n hc
  rcases Int.lt_or_le (n % c + 1) c with hlt | hge
  · refine .inl ⟨hlt, ?_, ?_⟩
    · have e : n + 1 = (n % c + 1) + (n / c) * c := by rw [Int.mul_comm (n / c)]; omega
      rw [e, Int.add_mul_ediv_right _ _ (by omega), Int.ediv_eq_zero_of_lt (by omega) hlt]; omega
    · have e : n + 1 = (n % c + 1) + c * (n / c) := by omega
      conv => lhs; rw [e]
      rw [Int.add_mul_emod_self_left]; exact Int.emod_eq_of_lt (by omega) hlt
  · refine .inr ⟨by omega, ?_, ?_⟩
    · have e : n + 1 = 0 + (n / c + 1) * c := by rw [Int.add_mul, Int.one_mul, Int.mul_comm (n / c)]; omega
      rw [e, Int.add_mul_ediv_right _ _ (by omega)]; simp
    · have e : n + 1 = 0 + c * (n / c + 1) := by rw [Int.mul_add, Int.mul_one]; omega
      rw [e, Int.add_mul_emod_self_left]; simp
/-! ### geometries -/
def GoodG (d z b o a : Int) : Prop := 3 ≤ d ∧ d ≤ 16 ∧ 5 ≤ z ∧ z ≤ 64 ∧ 4 ≤ b ∧ b ≤ 256 ∧ 1 ≤ o ∧ o ≤ a ∧ a ≤ z
instance (d z b o a : Int) : Decidable (GoodG d z b o a) := by unfold GoodG; infer_instance

theorem within_eq (n lo hi : Int) : geom_within.f n lo hi = some (decide (lo ≤ n ∧ n ≤ hi)) := by
  unfold geom_within.f
  by_cases h : lo ≤ n
  · rw [if_pos h]; simp [h]
  · rw [if_neg h]; simp [h]

theorem good_eq (d z b o a : Int) : geom_Good.f d z b o a = some (decide (GoodG d z b o a)) := by
  unfold geom_Good.f GoodG
  simp only [within_eq, Option.bind_some]
  by_cases h1 : 3 ≤ d ∧ d ≤ 16
  · by_cases h2 : 5 ≤ z ∧ z ≤ 64
    · by_cases h3 : 4 ≤ b ∧ b ≤ 256
      · by_cases h4 : 1 ≤ o ∧ o ≤ a
        · simp [h1, h2, h3, h4]
        · rw [if_pos (decide_eq_true h1), if_pos (decide_eq_true h2), if_pos (decide_eq_true h3), decide_eq_false h4, if_neg (by decide)]
          congr 1; symm; apply decide_eq_false; omega
      · rw [if_pos (decide_eq_true h1), if_pos (decide_eq_true h2), decide_eq_false h3, if_neg (by decide)]
        congr 1; symm; apply decide_eq_false; omega
    · rw [if_pos (decide_eq_true h1), decide_eq_false h2, if_neg (by decide)]
      congr 1; symm; apply decide_eq_false; omega
  · rw [decide_eq_false h1, if_neg (by decide)]
    congr 1; symm; apply decide_eq_false; omega

theorem good_yes {d z b o a : Int} (h : GoodG d z b o a) : geom_Good.f d z b o a = some true := by rw [good_eq, decide_eq_true h]
theorem good_no {d z b o a : Int} (h : ¬ GoodG d z b o a) : geom_Good.f d z b o a = some false := by rw [good_eq, decide_eq_false h]

theorem zones_yes {d z b o a : Int} (h : GoodG d z b o a) : geom_Zones.f d z b o a = some (z - 3) := by
  unfold geom_Zones.f
  rw [good_yes h]; simp only [Option.bind_some, if_true]
  unfold GoodG at h
  rw [w64 (n := z - 2) (by omega) (by omega), w64 (by omega) (by omega)]
  congr 1; omega
theorem zones_no {d z b o a : Int} (h : ¬ GoodG d z b o a) : geom_Zones.f d z b o a = some 0 := by
  unfold geom_Zones.f
  rw [good_no h]; simp

theorem cap_bounds {d z b o a : Int} (h : GoodG d z b o a) : 8 ≤ (d - 1) * b ∧ (d - 1) * b ≤ 3840 := by
  unfold GoodG at h
  have h1 : (2 : Int) * 4 ≤ (d - 1) * b := Int.mul_le_mul (by omega) (by omega) (by omega) (by omega)
  have h2 : (d - 1) * b ≤ 15 * 256 := Int.mul_le_mul (by omega) (by omega) (by omega) (by omega)
  omega

theorem capacity_yes {d z b o a : Int} (h : GoodG d z b o a) : geom_Capacity.f d z b o a = some ((d - 1) * b) := by
  unfold geom_Capacity.f
  rw [good_yes h]; simp only [Option.bind_some, if_true]
  have hc := cap_bounds h
  unfold GoodG at h
  rw [w64 (n := d - 1) (by omega) (by omega), w64 (by omega) (by omega)]
theorem capacity_no {d z b o a : Int} (h : ¬ GoodG d z b o a) : geom_Capacity.f d z b o a = some 0 := by
  unfold geom_Capacity.f
  rw [good_no h]; simp

theorem there_yes {d z b o a : Int} (h : GoodG d z b o a) (zone row : Int) : geom_there.f d z b o a zone row = some (decide (0 ≤ zone ∧ zone ≤ z - 4 ∧ 0 ≤ row ∧ row ≤ b - 1)) := by
  unfold geom_there.f
  rw [zones_yes h]; simp only [Option.bind_some]
  unfold GoodG at h
  rw [w64 (n := z - 3 - 1) (by omega) (by omega), w64 (n := b - 1) (by omega) (by omega)]
  simp only [within_eq, Option.bind_some]
  by_cases h1 : 0 ≤ zone ∧ zone ≤ z - 3 - 1
  · rw [if_pos (decide_eq_true h1)]
    congr 1
    by_cases h2 : 0 ≤ row ∧ row ≤ b - 1
    · rw [decide_eq_true h2, decide_eq_true]; omega
    · rw [decide_eq_false h2, decide_eq_false]; omega
  · rw [decide_eq_false h1, if_neg (by decide)]
    congr 1; symm; apply decide_eq_false; omega
theorem there_no {d z b o a : Int} (h : ¬ GoodG d z b o a) (zone row : Int) : geom_there.f d z b o a zone row = some false := by
  unfold geom_there.f
  rw [zones_no h]; simp only [Option.bind_some]
  rw [w64 (n := 0 - 1) (by omega) (by omega)]
  simp only [within_eq, Option.bind_some]
  rw [decide_eq_false (by omega), if_neg (by decide)]

def InZR (z b zone row : Int) : Prop := 0 ≤ zone ∧ zone ≤ z - 4 ∧ 0 ≤ row ∧ row ≤ b - 1
instance (z b zone row : Int) : Decidable (InZR z b zone row) := by unfold InZR; infer_instance

theorem parity_yes {d z b o a : Int} (h : GoodG d z b o a) {zone row : Int} (hi : InZR z b zone row) : geom_Parity.f d z b o a zone row = some ((zone + row) % d) := by
  unfold geom_Parity.f
  rw [there_yes h, decide_eq_true (show 0 ≤ zone ∧ zone ≤ z - 4 ∧ 0 ≤ row ∧ row ≤ b - 1 from hi)]; simp only [Option.bind_some, if_true]
  unfold GoodG at h; unfold InZR at hi
  rw [if_neg (by omega), w64 (by omega) (by omega), tmod_pos (by omega)]
theorem parity_out {d z b o a : Int} (h : GoodG d z b o a) {zone row : Int} (hi : ¬ InZR z b zone row) : geom_Parity.f d z b o a zone row = some (-1) := by
  unfold geom_Parity.f
  rw [there_yes h, decide_eq_false (show ¬ (0 ≤ zone ∧ zone ≤ z - 4 ∧ 0 ≤ row ∧ row ≤ b - 1) from hi)]; simp
theorem parity_no {d z b o a : Int} (h : ¬ GoodG d z b o a) (zone row : Int) : geom_Parity.f d z b o a zone row = some (-1) := by
  unfold geom_Parity.f
  rw [there_no h]; simp

def InZB (d z b zone block : Int) : Prop := 0 ≤ zone ∧ zone ≤ z - 4 ∧ 0 ≤ block ∧ block ≤ (d - 1) * b - 1
instance (d z b zone block : Int) : Decidable (InZB d z b zone block) := by unfold InZB; infer_instance

theorem row_bounds {d b block : Int} (hd : 3 ≤ d) (h0 : 0 ≤ block) (h1 : block ≤ (d - 1) * b - 1) : 0 ≤ block / (d - 1) ∧ block / (d - 1) ≤ b - 1 ∧ 0 ≤ block % (d - 1) ∧ block % (d - 1) < d - 1 := by
  refine ⟨Int.ediv_nonneg h0 (by omega), ?_, Int.emod_nonneg _ (by omega), Int.emod_lt_of_pos _ (by omega)⟩
  have h2 : block / (d - 1) < b := by
    apply Int.ediv_lt_of_lt_mul (by omega)
    rw [Int.mul_comm]; omega
  omega

def slotOf (d zone row k : Int) : Int := ((zone + row) % d + 1 + k) % d

theorem place_in {d z b o a : Int} (h : GoodG d z b o a) {zone block : Int} (hi : InZB d z b zone block) :
    geom_Place.f d z b o a zone block = some (block / (d - 1), slotOf d zone (block / (d - 1)) (block % (d - 1)), true) := by
  have hc := cap_bounds h
  have hr := row_bounds (d := d) (b := b) (by unfold GoodG at h; omega) hi.2.2.1 hi.2.2.2
  have hz : InZR z b zone (block / (d - 1)) := ⟨hi.1, hi.2.1, hr.1, hr.2.1⟩
  have hp : 0 ≤ (zone + block / (d - 1)) % d ∧ (zone + block / (d - 1)) % d < d := ⟨Int.emod_nonneg _ (by unfold GoodG at h; omega), Int.emod_lt_of_pos _ (by unfold GoodG at h; omega)⟩
  unfold geom_Place.f
  rw [there_yes h, decide_eq_true (by unfold InZB at hi; unfold GoodG at h; omega)]
  simp only [Option.bind_some, if_true]
  rw [capacity_yes h]; simp only [Option.bind_some]
  have hg := h
  unfold GoodG at h; unfold InZB at hi
  rw [w64 (n := (d - 1) * b - 1) (by omega) (by omega), within_eq, decide_eq_true (by omega)]
  simp only [Option.bind_some, if_true]
  rw [w64 (n := d - 1) (by omega) (by omega), if_neg (by omega), tdiv_pos (by omega), w64 (n := block / (d - 1)) (by omega) (by omega), parity_yes hg hz]
  simp only [Option.bind_some]
  rw [if_neg (by omega), tmod_pos (a := block) (by omega), w64 (n := (zone + block / (d - 1)) % d + 1) (by omega) (by omega), w64 (by omega) (by omega), tmod_pos (by omega)]
  rfl
theorem place_out {d z b o a : Int} (h : GoodG d z b o a) {zone block : Int} (hi : ¬ InZB d z b zone block) : geom_Place.f d z b o a zone block = some (0, 0, false) := by
  have hc := cap_bounds h
  unfold geom_Place.f
  rw [there_yes h]; simp only [Option.bind_some]
  by_cases hz : 0 ≤ zone ∧ zone ≤ z - 4 ∧ (0 : Int) ≤ 0 ∧ 0 ≤ b - 1
  · rw [if_pos (decide_eq_true hz), capacity_yes h]; simp only [Option.bind_some]
    rw [w64 (n := (d - 1) * b - 1) (by omega) (by omega), within_eq, decide_eq_false (by unfold InZB at hi; omega)]
    simp
  · rw [decide_eq_false hz, if_neg (by decide)]
theorem place_no {d z b o a : Int} (h : ¬ GoodG d z b o a) (zone block : Int) : geom_Place.f d z b o a zone block = some (0, 0, false) := by
  unfold geom_Place.f
  rw [there_no h]; simp
/-! ### what lies at a spot -/
def kOf (d p drive : Int) : Int := if p < drive then drive - p - 1 else drive - p - 1 + d
def sOf (d p k : Int) : Int := if p + 1 + k < d then p + 1 + k else p + 1 + k - d
theorem kOf_mod {d p drive : Int} (h0 : 0 ≤ p) (h1 : p < d) (h2 : 0 ≤ drive) (h3 : drive < d) (h4 : drive ≠ p) : (drive - p - 1 + d) % d = kOf d p drive := by
  unfold kOf
  split
  · rw [Int.add_emod_right]; exact Int.emod_eq_of_lt (by omega) (by omega)
  · exact Int.emod_eq_of_lt (by omega) (by omega)
theorem kOf_range {d p drive : Int} (h0 : 0 ≤ p) (h1 : p < d) (h2 : 0 ≤ drive) (h3 : drive < d) (h4 : drive ≠ p) : 0 ≤ kOf d p drive ∧ kOf d p drive ≤ d - 2 := by
  unfold kOf; split <;> omega
theorem sOf_mod {d p k : Int} (h0 : 0 ≤ p) (h1 : p < d) (h2 : 0 ≤ k) (h3 : k ≤ d - 2) : (p + 1 + k) % d = sOf d p k := by
  unfold sOf
  split
  · exact Int.emod_eq_of_lt (by omega) (by omega)
  · rw [show p + 1 + k = (p + 1 + k - d) + d by omega, Int.add_emod_right, show p + 1 + k - d + d - d = p + 1 + k - d by omega]; exact Int.emod_eq_of_lt (by omega) (by omega)
theorem sOf_range {d p k : Int} (h0 : 0 ≤ p) (h1 : p < d) (h2 : 0 ≤ k) (h3 : k ≤ d - 2) : 0 ≤ sOf d p k ∧ sOf d p k < d ∧ sOf d p k ≠ p := by
  unfold sOf; split <;> omega
theorem sOf_kOf {d p drive : Int} (h0 : 0 ≤ p) (h1 : p < d) (h2 : 0 ≤ drive) (h3 : drive < d) (h4 : drive ≠ p) : sOf d p (kOf d p drive) = drive := by
  unfold sOf kOf; split <;> split <;> omega
theorem kOf_sOf {d p k : Int} (h0 : 0 ≤ p) (h1 : p < d) (h2 : 0 ≤ k) (h3 : k ≤ d - 2) : kOf d p (sOf d p k) = k := by
  unfold sOf kOf; split <;> split <;> omega
theorem par_range (d zone row : Int) (hd : 3 ≤ d) : 0 ≤ (zone + row) % d ∧ (zone + row) % d < d := ⟨Int.emod_nonneg _ (by omega), Int.emod_lt_of_pos _ (by omega)⟩

theorem slotOf_eq {d zone row k : Int} (hd : 3 ≤ d) (h2 : 0 ≤ k) (h3 : k ≤ d - 2) : slotOf d zone row k = sOf d ((zone + row) % d) k :=
  sOf_mod (par_range d zone row hd).1 (par_range d zone row hd).2 h2 h3

theorem mul_row {d b row : Int} (hd : 3 ≤ d) (h0 : 0 ≤ row) (h1 : row ≤ b - 1) : 0 ≤ row * (d - 1) ∧ row * (d - 1) ≤ (d - 1) * b - (d - 1) := by
  refine ⟨Int.mul_nonneg h0 (by omega), ?_⟩
  have := Int.mul_le_mul_of_nonneg_right h1 (show 0 ≤ d - 1 by omega)
  rw [Int.sub_mul, Int.one_mul, Int.mul_comm b] at this
  exact this
theorem row_div {d row k : Int} (hd : 3 ≤ d) (h2 : 0 ≤ k) (h3 : k ≤ d - 2) : (row * (d - 1) + k) / (d - 1) = row ∧ (row * (d - 1) + k) % (d - 1) = k := by
  constructor
  · rw [Int.add_comm, Int.add_mul_ediv_right _ _ (by omega), Int.ediv_eq_zero_of_lt h2 (by omega)]; omega
  · rw [Int.add_comm, Int.add_mul_emod_self_right]; exact Int.emod_eq_of_lt h2 (by omega)

theorem back_in {d z b o a : Int} (h : GoodG d z b o a) {zone row drive : Int} (hi : InZR z b zone row) (h2 : 0 ≤ drive) (h3 : drive < d) (h4 : drive ≠ (zone + row) % d) :
    geom_Back.f d z b o a zone row drive = some (row * (d - 1) + kOf d ((zone + row) % d) drive, true) := by
  have hg := h
  unfold GoodG at hg
  have hp := par_range d zone row (by omega)
  have hk := kOf_range hp.1 hp.2 h2 h3 h4
  have hm := mul_row (d := d) (b := b) (row := row) (by omega) hi.2.2.1 hi.2.2.2
  have hc := cap_bounds h
  unfold geom_Back.f
  rw [parity_yes h hi]; simp only [Option.bind_some]
  rw [if_neg (by omega), if_neg (by omega), w64 (n := d - 1) (by omega) (by omega), within_eq, decide_eq_true (by omega)]
  simp only [Option.bind_some, if_true]
  rw [if_neg (by omega), w64 (n := drive - (zone + row) % d) (by omega) (by omega), w64 (n := drive - (zone + row) % d - 1) (by omega) (by omega), w64 (n := drive - (zone + row) % d - 1 + d) (by omega) (by omega), tmod_pos (by omega), kOf_mod hp.1 hp.2 h2 h3 h4, w64 (n := row * (d - 1)) (by omega) (by omega), w64 (by omega) (by omega)]
theorem back_par {d z b o a : Int} (h : GoodG d z b o a) {zone row : Int} (hi : InZR z b zone row) : geom_Back.f d z b o a zone row ((zone + row) % d) = some (0, false) := by
  have hg := h
  unfold GoodG at hg
  have hp := par_range d zone row (by omega)
  unfold geom_Back.f
  rw [parity_yes h hi]; simp only [Option.bind_some]
  rw [if_neg (by omega), if_pos trivial]
theorem back_drive {d z b o a : Int} (h : GoodG d z b o a) {zone row drive : Int} (hi : InZR z b zone row) (h2 : drive < 0 ∨ d ≤ drive) : geom_Back.f d z b o a zone row drive = some (0, false) := by
  have hg := h
  unfold GoodG at hg
  have hp := par_range d zone row (by omega)
  unfold geom_Back.f
  rw [parity_yes h hi]; simp only [Option.bind_some]
  rw [if_neg (by omega), if_neg (by omega), w64 (n := d - 1) (by omega) (by omega), within_eq, decide_eq_false (by omega)]
  simp
theorem back_out {d z b o a : Int} (h : GoodG d z b o a) {zone row : Int} (hi : ¬ InZR z b zone row) (drive : Int) : geom_Back.f d z b o a zone row drive = some (0, false) := by
  unfold geom_Back.f
  rw [parity_out h hi]; simp
theorem back_no {d z b o a : Int} (h : ¬ GoodG d z b o a) (zone row drive : Int) : geom_Back.f d z b o a zone row drive = some (0, false) := by
  unfold geom_Back.f
  rw [parity_no h]; simp
/-! ### how many blocks a slot has of a zone -/
def lenV (d zone n s : Int) : Int := n / (d - 1) + (if s ≠ (zone + n / (d - 1)) % d ∧ kOf d ((zone + n / (d - 1)) % d) s < n % (d - 1) then 1 else 0)
theorem lenV_step {d zone n s : Int} (hd : 3 ≤ d) (hn : 0 ≤ n) (h0 : 0 ≤ s) (h1 : s < d) :
    lenV d zone (n + 1) s = lenV d zone n s + (if s = slotOf d zone (n / (d - 1)) (n % (d - 1)) then 1 else 0) + (if n % (d - 1) = d - 2 ∧ s = (zone + n / (d - 1)) % d then 1 else 0) := by
  have hp := par_range d zone (n / (d - 1)) hd
  have hm0 := Int.emod_nonneg n (show d - 1 ≠ 0 by omega)
  have hm1 := Int.emod_lt_of_pos n (show 0 < d - 1 by omega)
  have hs : slotOf d zone (n / (d - 1)) (n % (d - 1)) = sOf d ((zone + n / (d - 1)) % d) (n % (d - 1)) := slotOf_eq hd hm0 (by omega)
  have hsr := sOf_range hp.1 hp.2 hm0 (show n % (d - 1) ≤ d - 2 by omega)
  rw [hs]
  unfold lenV
  generalize hpp : (zone + n / (d - 1)) % d = p at hp hsr ⊢
  generalize hr : n % (d - 1) = r at hm0 hm1 hsr ⊢
  have hk : s ≠ p → (s = sOf d p r ↔ kOf d p s = r) := by
    intro hne
    constructor
    · rintro rfl; exact kOf_sOf hp.1 hp.2 hm0 (by omega)
    · rintro h; rw [← h]; exact (sOf_kOf hp.1 hp.2 h0 h1 hne).symm
  rcases div_step (n := n) (c := d - 1) (by omega) hn with ⟨e1, e2, e3⟩ | ⟨e1, e2, e3⟩
  · rw [e2, e3, hpp, hr]
    rw [hr] at e1
    by_cases hsp : s = p
    · subst hsp
      rw [if_neg (by omega), if_neg (by omega), if_neg (by omega), if_neg (by omega)]; omega
    · have hk2 := hk hsp
      by_cases hkr : kOf d p s < r
      · rw [if_pos ⟨hsp, by omega⟩, if_pos ⟨hsp, hkr⟩, if_neg (by omega), if_neg (by omega)]; omega
      · by_cases hke : kOf d p s = r
        · rw [if_pos ⟨hsp, by omega⟩, if_neg (by omega), if_pos (hk2.2 hke), if_neg (by omega)]; omega
        · rw [if_neg (by omega), if_neg (by omega), if_neg (fun h => hke (hk2.1 h)), if_neg (by omega)]; simp
  · rw [e2, e3]
    rw [hr] at e1
    have hnn : ¬ (s ≠ (zone + (n / (d - 1) + 1)) % d ∧ kOf d ((zone + (n / (d - 1) + 1)) % d) s < 0) := by
      rintro ⟨h2, h3⟩
      have hp' := par_range d zone (n / (d - 1) + 1) hd
      have := kOf_range hp'.1 hp'.2 h0 h1 h2
      omega
    rw [if_neg hnn]
    by_cases hsp : s = p
    · subst hsp
      rw [if_neg (by omega), if_neg (by omega), if_pos ⟨by omega, rfl⟩]; omega
    · have hk2 := hk hsp
      have hkr := kOf_range hp.1 hp.2 h0 h1 hsp
      by_cases hke : kOf d p s = r
      · rw [if_neg (by omega), if_pos (hk2.2 hke), if_neg (by omega)]; omega
      · rw [if_pos ⟨hsp, by omega⟩, if_neg (fun h => hke (hk2.1 h)), if_neg (by omega)]; omega
theorem lenV_zero {d zone s : Int} (hd : 3 ≤ d) (h0 : 0 ≤ s) (h1 : s < d) : lenV d zone 0 s = 0 := by
  unfold lenV
  have hp := par_range d zone (0 / (d - 1)) hd
  rw [if_neg]
  · simp
  · rintro ⟨h2, h3⟩
    have := kOf_range hp.1 hp.2 h0 h1 h2
    simp at h3
    simp at this
    omega
/-- What Lengths tells: one number a slot. -/
def lensL (d zone n : Int) : List Int := (List.range d.toNat).map fun s : Nat => lenV d zone n (s : Int)
theorem lensL_length (d zone n : Int) : (lensL d zone n).length = d.toNat := by simp [lensL]
theorem lensL_rd {d zone n s : Int} (h0 : 0 ≤ s) (h1 : s < d) : rd (lensL d zone n) s = lenV d zone n s := by
  unfold rd lensL
  rw [List.getD_eq_getElem?_getD, List.getElem?_map, List.getElem?_range (by omega)]
  simp [show ((s.toNat : Nat) : Int) = s by omega]

theorem back_lt {d z b o a : Int} (h : GoodG d z b o a) {zone n s : Int} (hz0 : 0 ≤ zone) (hz1 : zone ≤ z - 4) (hn0 : 0 ≤ n) (hn1 : n ≤ (d - 1) * b) (h0 : 0 ≤ s) (h1 : s < d) :
    ∃ x, geom_Back.f d z b o a zone (n / (d - 1)) s = some x ∧ (lenV d zone n s = if x.2 = true ∧ x.1 < n then n / (d - 1) + 1 else n / (d - 1)) := by
  have hg := h
  unfold GoodG at hg
  have hp := par_range d zone (n / (d - 1)) (by omega)
  have hm0 := Int.emod_nonneg n (show d - 1 ≠ 0 by omega)
  have hdm := Int.emod_add_mul_ediv n (d - 1)
  have hq0 := Int.ediv_nonneg hn0 (show 0 ≤ d - 1 by omega)
  rw [Int.mul_comm] at hdm
  unfold lenV
  by_cases hr : n / (d - 1) ≤ b - 1
  · have hi : InZR z b zone (n / (d - 1)) := ⟨hz0, hz1, hq0, hr⟩
    by_cases hs : s = (zone + n / (d - 1)) % d
    · refine ⟨_, by rw [hs]; exact back_par h hi, ?_⟩
      rw [if_neg (by omega), if_neg (by simp)]; omega
    · refine ⟨_, back_in h hi h0 h1 hs, ?_⟩
      by_cases hk : kOf d ((zone + n / (d - 1)) % d) s < n % (d - 1)
      · rw [if_pos ⟨hs, hk⟩, if_pos ⟨rfl, by simp only; omega⟩]
      · rw [if_neg (by omega), if_neg (by simp only; omega)]; omega
  · refine ⟨_, back_out h (by unfold InZR; omega) s, ?_⟩
    have hb : n / (d - 1) = b := by
      have : n / (d - 1) ≤ b := by
        have := Int.ediv_le_ediv (show 0 < d - 1 by omega) hn1
        rwa [Int.mul_ediv_cancel_left _ (by omega)] at this
      omega
    have hm : n % (d - 1) = 0 := by
      rw [hb, Int.mul_comm] at hdm
      omega
    have hno : ¬ (s ≠ (zone + n / (d - 1)) % d ∧ kOf d ((zone + n / (d - 1)) % d) s < n % (d - 1)) := by
      rintro ⟨h2, h3⟩
      have := kOf_range hp.1 hp.2 h0 h1 h2
      omega
    rw [if_neg hno, if_neg (by simp)]; omega

theorem set_map_range (f : Nat → Int) (n i : Nat) (l : List Int) (hi : i < n) (hl : l.length = n) (h : ∀ j, j < n → l.getD j 0 = if j < i then f j else 0) (v : Int) (hv : v = f i) :
    (l.set i v).length = n ∧ ∀ j, j < n → (l.set i v).getD j 0 = if j < i + 1 then f j else 0 := by
  refine ⟨by simp [hl], fun j hj => ?_⟩
  rw [List.getD_eq_getElem?_getD, List.getElem?_set]
  by_cases e : i = j
  · subst e
    rw [if_pos rfl, if_pos (by omega), if_pos (by omega), hv]; rfl
  · rw [if_neg e, ← List.getD_eq_getElem?_getD, h j hj]
    by_cases h2 : j < i
    · rw [if_pos h2, if_pos (by omega)]
    · rw [if_neg h2, if_neg (by omega)]
theorem eq_map_range (f : Nat → Int) (n : Nat) (l : List Int) (hl : l.length = n) (h : ∀ j, j < n → l.getD j 0 = f j) : l = (List.range n).map f := by
  apply List.ext_getElem
  · simp [hl]
  · intro j h1 h2
    have := h j (by omega)
    rw [List.getD_eq_getElem?_getD, List.getElem?_eq_getElem h1] at this
    simpa using this

theorem lengths_loop {d z b o a : Int} (h : GoodG d z b o a) {zone n : Int} (hz0 : 0 ≤ zone) (hz1 : zone ≤ z - 4) (hn0 : 0 ≤ n) (hn1 : n ≤ (d - 1) * b) (m : Nat) :
    ∀ (k : Nat) (i : Nat) (l : List Int), d.toNat - i = m → i ≤ d.toNat → m < k → l.length = d.toNat → (∀ j, j < d.toNat → l.getD j 0 = if j < i then lenV d zone n j else 0) →
      plan_Lengths.l0 k zone n l (n / (d - 1)) d i d z b o a = some (lensL d zone n) := by
  have hd3 : 3 ≤ d ∧ d ≤ 16 := by unfold GoodG at h; omega
  have hw1 : Unit → wrap64 (n / (d - 1) + 1) = n / (d - 1) + 1 := fun _ => by
    have hc := cap_bounds h
    have hq0 := Int.ediv_nonneg hn0 (show 0 ≤ d - 1 by omega)
    have hq1 : n / (d - 1) ≤ n := Int.ediv_le_self _ hn0
    exact w64 (by omega) (by omega)
  induction m with
  | zero =>
    intro k i l hm hi hk hl hv
    obtain ⟨k, rfl⟩ : ∃ q, k = q + 1 := ⟨k - 1, by omega⟩
    simp only [plan_Lengths.l0]
    rw [if_neg (by omega)]
    congr 1
    refine eq_map_range (fun s : Nat => lenV d zone n (s : Int)) d.toNat l hl (fun j hj => ?_)
    rw [hv j hj, if_pos (by omega)]
  | succ m ih =>
    intro k i l hm hi hk hl hv
    obtain ⟨k, rfl⟩ : ∃ q, k = q + 1 := ⟨k - 1, by omega⟩
    have f1 : i < d.toNat := by omega
    have f2 : d.toNat - (i + 1) = m := by omega
    have f3 : i + 1 ≤ d.toNat := f1
    have f4 : m < k := by omega
    have f5 : i ≤ 1000000000000 := by omega
    simp only [plan_Lengths.l0]
    rw [if_pos (by omega), if_pos (by omega), if_pos (by omega), Int.toNat_natCast]
    simp only [Option.bind_some]
    obtain ⟨x, hx, hlen⟩ := back_lt h (s := (i : Int)) hz0 hz1 hn0 hn1 (by omega) (by omega)
    rw [hx]
    simp only [Option.bind_some]
    have hrd : rd (l.set i (n / (d - 1))) i = n / (d - 1) := by
      unfold rd
      rw [Int.toNat_natCast, List.getD_eq_getElem?_getD, List.getElem?_set, if_pos rfl, if_pos (by omega)]; rfl
    rw [hrd, w_succ f5, hw1 (), List.set_set]
    by_cases hb : x.2 = true
    · rw [if_pos hb]
      by_cases hb2 : x.1 < n
      · have hc : x.2 = true ∧ x.1 < n := ⟨hb, hb2⟩
        rw [if_pos hc] at hlen
        rw [if_pos hb2]
        obtain ⟨q1, q2⟩ := set_map_range (fun s : Nat => lenV d zone n (s : Int)) d.toNat i l f1 hl hv (n / (d - 1) + 1) hlen.symm
        exact ih k (i + 1) _ f2 f3 f4 q1 q2
      · have hc : ¬ (x.2 = true ∧ x.1 < n) := fun h => hb2 h.2
        rw [if_neg hc] at hlen
        rw [if_neg hb2]
        obtain ⟨q1, q2⟩ := set_map_range (fun s : Nat => lenV d zone n (s : Int)) d.toNat i l f1 hl hv (n / (d - 1)) hlen.symm
        exact ih k (i + 1) _ f2 f3 f4 q1 q2
    · have hc : ¬ (x.2 = true ∧ x.1 < n) := fun h => hb h.1
      rw [if_neg hc] at hlen
      rw [if_neg hb]
      obtain ⟨q1, q2⟩ := set_map_range (fun s : Nat => lenV d zone n (s : Int)) d.toNat i l f1 hl hv (n / (d - 1)) hlen.symm
      exact ih k (i + 1) _ f2 f3 f4 q1 q2
def InZN (d z b zone n : Int) : Prop := 0 ≤ zone ∧ zone ≤ z - 4 ∧ 0 ≤ n ∧ n ≤ (d - 1) * b
theorem lengths_in {d z b o a : Int} (h : GoodG d z b o a) {zone n : Int} (hi : InZN d z b zone n) (k : Nat) (hk : 30 ≤ k) : plan_Lengths.f k d z b o a zone n = some (lensL d zone n) := by
  obtain ⟨k, rfl⟩ : ∃ q, k = q + 1 := ⟨k - 1, by omega⟩
  have hg := h
  unfold GoodG at hg
  have hc := cap_bounds h
  obtain ⟨h1, h2, h3, h4⟩ := hi
  have hq0 := Int.ediv_nonneg h3 (show 0 ≤ d - 1 by omega)
  have hq1 : n / (d - 1) ≤ n := Int.ediv_le_self _ h3
  unfold plan_Lengths.f
  rw [good_yes h, zones_yes h, capacity_yes h]
  simp only [Option.bind_some, if_true]
  rw [if_neg (by omega), if_neg (by omega), if_neg (by omega), decide_eq_false (by omega)]
  simp only [plan_Lengths.j0]
  rw [if_neg (by decide), if_pos (by omega), if_pos (by omega)]
  simp only [Option.bind_some]
  rw [w64 (n := d - 1) (by omega) (by omega), if_neg (by omega), tdiv_pos h3, w64 (n := n / (d - 1)) (by omega) (by omega), List.length_replicate, show ((d.toNat : Nat) : Int) = d by omega]
  refine lengths_loop h h1 h2 h3 h4 d.toNat k 0 (List.replicate d.toNat 0) (by omega) (by omega) (by omega) (by simp) ?_
  intro j hj
  rw [List.getD_eq_getElem?_getD, List.getElem?_replicate, if_pos hj, if_neg (by omega)]; rfl
theorem lengths_out {d z b o a : Int} {zone n : Int} (hi : ¬ (GoodG d z b o a ∧ InZN d z b zone n)) (k : Nat) (hk : 1 ≤ k) : plan_Lengths.f k d z b o a zone n = some [] := by
  obtain ⟨k, rfl⟩ : ∃ q, k = q + 1 := ⟨k - 1, by omega⟩
  unfold plan_Lengths.f
  by_cases h : GoodG d z b o a
  · have hg := h
    unfold GoodG at hg
    unfold InZN at hi
    rw [good_yes h, zones_yes h, capacity_yes h]
    simp only [Option.bind_some, if_true, plan_Lengths.j0]
    by_cases h1 : zone < 0
    · rw [if_pos h1]
    by_cases h2 : zone ≥ z - 3
    · rw [if_neg h1, if_pos h2]
    by_cases h3 : n < 0
    · rw [if_neg h1, if_neg h2, if_pos h3]
    rw [if_neg h1, if_neg h2, if_neg h3, decide_eq_true (show n > (d - 1) * b by
      rcases Int.lt_or_le ((d - 1) * b) n with h4 | h4
      · exact h4
      · exact absurd ⟨h, by omega, by omega, by omega, h4⟩ hi)]
    simp
  · rw [good_no h]
    simp [plan_Lengths.j0]
theorem sum_noughts {α : Type} (l : List α) : (l.map fun _ => (0 : Int)).sum = 0 := by
  induction l with
  | nil => rfl
  | cons x l ih => simp only [List.map_cons, List.sum_cons, ih]; rfl
/-- The sum of the lengths. -/
theorem lens_sum (d zone : Int) (hd : 3 ≤ d) (n : Nat) : ((List.range d.toNat).map fun s : Nat => lenV d zone n (s : Int)).sum = n + (n : Int) / (d - 1) := by
  induction n with
  | zero =>
    have : ((List.range d.toNat).map fun s : Nat => lenV d zone ((0 : Nat) : Int) s) = (List.range d.toNat).map fun _ => (0 : Int) := by
      apply List.map_congr_left
      intro s hs
      rw [List.mem_range] at hs
      exact lenV_zero hd (by omega) (by omega)
    rw [this, sum_noughts]
    simp
  | succ n ih =>
    have hp := par_range d zone ((n : Int) / (d - 1)) hd
    have hm0 := Int.emod_nonneg (n : Int) (show d - 1 ≠ 0 by omega)
    have hm1 := Int.emod_lt_of_pos (n : Int) (show 0 < d - 1 by omega)
    have hsr := sOf_range hp.1 hp.2 hm0 (show (n : Int) % (d - 1) ≤ d - 2 by omega)
    have hstep : ((List.range d.toNat).map fun s : Nat => lenV d zone ((n + 1 : Nat) : Int) s) = (List.range d.toNat).map fun s : Nat => lenV d zone n s + (if (s : Int) = slotOf d zone ((n : Int) / (d - 1)) ((n : Int) % (d - 1)) then 1 else 0) + (if (n : Int) % (d - 1) = d - 2 ∧ (s : Int) = (zone + (n : Int) / (d - 1)) % d then 1 else 0) := by
      apply List.map_congr_left
      intro s hs
      rw [List.mem_range] at hs
      have := lenV_step (zone := zone) (n := (n : Int)) (s := (s : Int)) hd (by omega) (by omega) (by omega)
      rw [← this]; congr 1
    have sum_add : ∀ (l : List Nat) (f g h : Nat → Int), (l.map fun s => f s + g s + h s).sum = (l.map f).sum + (l.map g).sum + (l.map h).sum := by
      intro l f g h
      induction l with
      | nil => simp
      | cons x l ih => simp only [List.map_cons, List.sum_cons, ih]; omega
    have sum_one : ∀ (m : Nat) (t : Int), 0 ≤ t → t < m → ((List.range m).map fun s : Nat => if (s : Int) = t then (1 : Int) else 0).sum = 1 := by
      intro m t h0 h1
      induction m with
      | zero => omega
      | succ m ih =>
        rw [List.range_succ, List.map_append, List.sum_append]
        by_cases e : t = m
        · have hz : ((List.range m).map fun s : Nat => if (s : Int) = t then (1 : Int) else 0) = (List.range m).map fun _ => (0 : Int) := by
            apply List.map_congr_left
            intro s hs
            rw [List.mem_range] at hs
            rw [if_neg (by omega)]
          rw [hz, sum_noughts]
          simp [e]
        · rw [ih (by omega)]
          simp
          omega
    rw [hstep, sum_add, ih]
    have hd2 : ((d.toNat : Nat) : Int) = d := by omega
    rw [sum_one d.toNat _ (by rw [slotOf_eq hd hm0 (by omega)]; exact hsr.1) (by rw [slotOf_eq hd hm0 (by omega)]; omega)]
    rcases div_step (n := (n : Int)) (c := d - 1) (by omega) (by omega) with ⟨e1, e2, e3⟩ | ⟨e1, e2, e3⟩
    · have hz : ((List.range d.toNat).map fun s : Nat => if (n : Int) % (d - 1) = d - 2 ∧ (s : Int) = (zone + (n : Int) / (d - 1)) % d then (1 : Int) else 0) = (List.range d.toNat).map fun _ => (0 : Int) := by
        apply List.map_congr_left
        intro s hs
        rw [if_neg (by omega)]
      rw [hz, sum_noughts]
      have e2' : ((n + 1 : Nat) : Int) / (d - 1) = (n : Int) / (d - 1) := by rw [← e2]; congr 1
      rw [e2']
      simp
      omega
    · have hz : ((List.range d.toNat).map fun s : Nat => if (n : Int) % (d - 1) = d - 2 ∧ (s : Int) = (zone + (n : Int) / (d - 1)) % d then (1 : Int) else 0) = (List.range d.toNat).map fun s : Nat => if (s : Int) = (zone + (n : Int) / (d - 1)) % d then (1 : Int) else 0 := by
        apply List.map_congr_left
        intro s hs
        have : (n : Int) % (d - 1) = d - 2 := by omega
        simp [this]
      rw [hz, sum_one d.toNat _ hp.1 (by omega)]
      have e2' : ((n + 1 : Nat) : Int) / (d - 1) = (n : Int) / (d - 1) + 1 := by rw [← e2]; congr 1
      rw [e2']
      omega
theorem lenV_bounds {d z b o a : Int} (h : GoodG d z b o a) {zone n s : Int} (hn0 : 0 ≤ n) (hn1 : n ≤ (d - 1) * b) (h0 : 0 ≤ s) (h1 : s < d) :
    0 ≤ n / (d - 1) ∧ n / (d - 1) ≤ lenV d zone n s ∧ lenV d zone n s ≤ n / (d - 1) + 1 ∧ lenV d zone n s ≤ b ∧ b ≤ 256 := by
  have hg : 3 ≤ d ∧ b ≤ 256 := by unfold GoodG at h; omega
  have hp := par_range d zone (n / (d - 1)) hg.1
  have hq0 := Int.ediv_nonneg hn0 (show 0 ≤ d - 1 by omega)
  have hb : n / (d - 1) ≤ b := by
    have := Int.ediv_le_ediv (show 0 < d - 1 by omega) hn1
    rwa [Int.mul_ediv_cancel_left _ (by omega)] at this
  have hm0 := Int.emod_nonneg n (show d - 1 ≠ 0 by omega)
  have hdm := Int.emod_add_mul_ediv n (d - 1)
  unfold lenV
  by_cases hc : s ≠ (zone + n / (d - 1)) % d ∧ kOf d ((zone + n / (d - 1)) % d) s < n % (d - 1)
  · rw [if_pos hc]
    have hk := kOf_range hp.1 hp.2 h0 h1 hc.1
    have : n / (d - 1) ≠ b := by
      intro e
      rw [e] at hdm
      omega
    omega
  · rw [if_neg hc]; omega
/-! ### the document's geometry -/
theorem rgood_eq (d z b o a : Int) : corbelref04_Good.f d z b o a = some (decide (GoodG d z b o a)) := by
  unfold corbelref04_Good.f GoodG
  by_cases h1 : d < 3
  · rw [if_pos h1]; congr 1; symm; apply decide_eq_false; omega
  by_cases h2 : d > 16
  · rw [if_neg h1, if_pos h2]; congr 1; symm; apply decide_eq_false; omega
  by_cases h3 : z < 5
  · rw [if_neg h1, if_neg h2, if_pos h3]; congr 1; symm; apply decide_eq_false; omega
  by_cases h4 : z > 64
  · rw [if_neg h1, if_neg h2, if_neg h3, if_pos h4]; congr 1; symm; apply decide_eq_false; omega
  by_cases h5 : b < 4
  · rw [if_neg h1, if_neg h2, if_neg h3, if_neg h4, if_pos h5]; congr 1; symm; apply decide_eq_false; omega
  by_cases h6 : b > 256
  · rw [if_neg h1, if_neg h2, if_neg h3, if_neg h4, if_neg h5, if_pos h6]; congr 1; symm; apply decide_eq_false; omega
  rw [if_neg h1, if_neg h2, if_neg h3, if_neg h4, if_neg h5, if_neg h6]
  by_cases h7 : o > 0
  · by_cases h8 : o ≤ a
    · rw [if_pos h7, if_pos h8]
      congr 1
      by_cases h9 : a ≤ z
      · rw [decide_eq_true h9]; symm; apply decide_eq_true; omega
      · rw [decide_eq_false h9]; symm; apply decide_eq_false; omega
    · rw [if_pos h7, if_neg h8]; congr 1; symm; apply decide_eq_false; omega
  · rw [if_neg h7]; congr 1; symm; apply decide_eq_false; omega
theorem rgood_yes {d z b o a : Int} (h : GoodG d z b o a) : corbelref04_Good.f d z b o a = some true := by rw [rgood_eq, decide_eq_true h]
theorem rgood_no {d z b o a : Int} (h : ¬ GoodG d z b o a) : corbelref04_Good.f d z b o a = some false := by rw [rgood_eq, decide_eq_false h]

/-! ### the pieces of a range -/
theorem divmod_of {w q e x : Int} (hw : 0 < w) (hx : x = w * q + e) (h0 : 0 ≤ e) (h1 : e < w) : x / w = q ∧ x % w = e := by
  subst hx
  constructor
  · rw [Int.add_comm, Int.add_mul_ediv_left _ _ (by omega), Int.ediv_eq_zero_of_lt h0 h1]; omega
  · rw [Int.add_comm, Int.add_mul_emod_self_left]; exact Int.emod_eq_of_lt h0 h1
def cntV (w f n : Int) : Int := if w - f % w < n then w - f % w else n
def IsP (w : Int) : Int → Int → List S86 → Prop
  | _, n, [] => n = 0
  | f, n, p :: l => 0 < n ∧ p = ⟨f / w, f % w, cntV w f n⟩ ∧ IsP w (f + cntV w f n) (n - cntV w f n) l
theorem cntV_bounds {w f n : Int} (hw : 1 ≤ w) (hn : 0 < n) : 1 ≤ cntV w f n ∧ cntV w f n ≤ n ∧ 0 ≤ f % w ∧ f % w + cntV w f n ≤ w ∧ (f % w + cntV w f n = w ∨ cntV w f n = n) := by
  have h0 := Int.emod_nonneg f (show w ≠ 0 by omega)
  have h1 := Int.emod_lt_of_pos f (show 0 < w by omega)
  unfold cntV
  split <;> omega
theorem pieces_loop {w : Int} (hw : 1 ≤ w) (hw2 : w ≤ 9223372036854775807) (k : Nat) :
    ∀ (f n : Int) (acc : List S86), 0 ≤ f → 0 ≤ n → f + n ≤ 3000000000000 → n.toNat < k → acc.length + n.toNat ≤ 100000 → ∃ l, stripe_Pieces.l0 k w f n acc = some (acc ++ l) ∧ IsP w f n l ∧ l.length ≤ n.toNat := by
  induction k with
  | zero => intro f n acc _ _ _ hk _; omega
  | succ k ih =>
    intro f n acc hf hn hb hk ha
    by_cases hn0 : n > 0
    · have hc := cntV_bounds (f := f) hw hn0
      have hm1 := Int.emod_lt_of_pos f (show 0 < w by omega)
      have hdv0 := Int.ediv_nonneg hf (show 0 ≤ w by omega)
      have hdv1 : f / w ≤ f := Int.ediv_le_self _ hf
      have hcv : mn n (w - f % w) = cntV w f n := by unfold mn cntV; rfl
      obtain ⟨l, h1, h2, h3⟩ := ih (f + cntV w f n) (n - cntV w f n) (acc ++ [⟨f / w, f % w, cntV w f n⟩]) (by omega) (by omega) (by omega) (by omega) (by simp; omega)
      refine ⟨⟨f / w, f % w, cntV w f n⟩ :: l, ?_, ⟨hn0, rfl, h2⟩, by simp; omega⟩
      simp only [stripe_Pieces.l0]
      rw [if_pos hn0, if_neg (by omega), if_pos (by omega), tmod_pos hf, tdiv_pos hf, w64 (n := w - f % w) (by omega) (by omega), hcv, w64 (n := f + cntV w f n) (by omega) (by omega), w64 (n := n - cntV w f n) (by omega) (by omega), w64 (n := f / w) (by omega) (by omega), h1]
      simp
    · refine ⟨[], ?_, by unfold IsP; omega, by simp⟩
      simp only [stripe_Pieces.l0]
      rw [if_neg hn0]; simp
theorem pieces_in {w f n : Int} (hw : 1 ≤ w) (hw2 : w ≤ 9223372036854775807) (hf : 0 ≤ f) (hn : 1 ≤ n) (hf2 : f ≤ 1099511627776) (hn2 : n ≤ 1099511627776 - f) (hn3 : n ≤ 50000) (k : Nat) (hk : n.toNat + 1 < k) :
    ∃ l, stripe_Pieces.f k w f n = some l ∧ IsP w f n l ∧ l.length ≤ n.toNat := by
  obtain ⟨k, rfl⟩ : ∃ q, k = q + 1 := ⟨k - 1, by omega⟩
  obtain ⟨l, h1, h2, h3⟩ := pieces_loop hw hw2 k f n [] hf (by omega) (by omega) (by omega) (by simp; omega)
  refine ⟨l, ?_, h2, h3⟩
  unfold stripe_Pieces.f
  rw [if_neg (by omega), if_neg (by omega), if_neg (by omega), if_neg (by omega), w64 (n := 1099511627776 - f) (by omega) (by omega), decide_eq_false (by omega)]
  simp only [stripe_Pieces.j0]
  rw [if_neg (by decide), h1]; simp
/-! ### the steps of a write -/
def blockSteps (d zone stop b : Int) : List S37 :=
  ⟨1, slotOf d zone (b / (d - 1)) (b % (d - 1)), b / (d - 1), b, 0⟩ :: (if b % (d - 1) = d - 2 then [⟨2, (zone + b / (d - 1)) % d, b / (d - 1), 0, 0⟩] else if b = stop - 1 then [⟨3, (zone + b / (d - 1)) % d, b / (d - 1), 0, b % (d - 1) + 1⟩] else [])
def stepsR (d zone stop : Int) : Nat → Int → List S37
  | 0, _ => []
  | m + 1, b => blockSteps d zone stop b ++ stepsR d zone stop m (b + 1)
theorem blockSteps_length (d zone stop b : Int) : (blockSteps d zone stop b).length ≤ 2 := by
  unfold blockSteps; split
  · simp
  · split <;> simp
theorem stepsR_length (d zone stop : Int) (m : Nat) : ∀ b, (stepsR d zone stop m b).length ≤ 2 * m := by
  induction m with
  | zero => intro b; simp [stepsR]
  | succ m ih =>
    intro b
    have h1 := blockSteps_length d zone stop b
    have h2 := ih (b + 1)
    simp only [stepsR, List.length_append]; omega
theorem stepsR_add (d zone stop : Int) (i : Nat) : ∀ (j : Nat) (b : Int), stepsR d zone stop (i + j) b = stepsR d zone stop i b ++ stepsR d zone stop j (b + i) := by
  induction i with
  | zero => intro j b; simp [stepsR]
  | succ i ih =>
    intro j b
    rw [show i + 1 + j = (i + j) + 1 by omega]
    simp only [stepsR, ih, List.append_assoc]
    rw [show b + 1 + (i : Int) = b + ((i + 1 : Nat) : Int) by omega]

theorem write_l1 {d z b o a : Int} (h : GoodG d z b o a) {zone : Int} (hz0 : 0 ≤ zone) (hz1 : zone ≤ z - 4) (stop : Int) (L : List S86) (ln i r first cnt f : Int) (tail : List S37) (K : Nat)
    (hf : f = (d - 1) * r + first) (hr0 : 0 ≤ r) (hr1 : r ≤ b - 1) (hfi : 0 ≤ first) (hfc : first + cnt ≤ d - 1) (hend : first + cnt = d - 1 ∨ f + cnt = stop) (hst : f + cnt ≤ stop) (hi : wrap64 (i + 1) = i + 1)
    (N : Nat) (hcont : ∀ (k : Nat) (acc : List S37), K ≤ k → acc.length + N ≤ 20000 → plan_Write.l0 k zone acc (d - 1) L ln (i + 1) d z b o a = some (acc ++ tail, 0)) (m : Nat) :
    ∀ (k : Nat) (t : Int) (acc : List S37), 0 ≤ t → t + m + 1 = cnt → K + m + 2 ≤ k → acc.length + 2 * m + 2 + N ≤ 20000 →
      plan_Write.l1 k zone acc (d - 1) f (f + t) L ln i d z b o a r first cnt = some (acc ++ stepsR d zone stop (m + 1) (f + t) ++ tail, 0) := by
  have hg : 3 ≤ d ∧ d ≤ 16 ∧ b ≤ 256 := by unfold GoodG at h; omega
  have hm := mul_row (d := d) (b := b) (row := r) hg.1 hr0 hr1
  have hc := cap_bounds h
  have hmc : (d - 1) * r = r * (d - 1) := Int.mul_comm _ _
  have hf0 : 0 ≤ f := by omega
  have hfe : f + cnt ≤ (d - 1) * b := by omega
  have hpar := par_range d zone r hg.1
  induction m with
  | zero =>
    intro k t acc ht hcnt hk ha
    obtain ⟨k, rfl⟩ : ∃ q, k = q + 2 := ⟨k - 2, by omega⟩
    have hdm := divmod_of (w := d - 1) (q := r) (e := first + t) (x := f + t) (by omega) (by omega) (by omega) (by omega)
    have hzb : InZB d z b zone (f + t) := ⟨hz0, hz1, by omega, by omega⟩
    have e1 : f + t + 1 = f + cnt := by omega
    simp only [plan_Write.l1]
    rw [w64 (n := f + cnt) (by omega) (by omega), if_pos (by omega), place_in h hzb, hdm.1, hdm.2]
    simp only [Option.bind_some]
    rw [if_pos (by omega), w64 (n := f + t + 1) (by omega) (by omega), e1, if_neg (by omega), parity_yes h (zone := zone) (row := r) ⟨hz0, hz1, hr0, hr1⟩]
    simp only [Option.bind_some]
    rw [w64 (n := first + cnt) (by omega) (by omega), hi]
    simp only [stepsR, blockSteps, hdm.1, hdm.2]
    by_cases hfull : first + cnt < d - 1
    · rw [if_pos hfull, if_pos (by simp; omega), hcont k _ (by omega) (by simp; omega), if_neg (show ¬ first + t = d - 2 by omega), if_pos (show f + t = stop - 1 by omega), show first + t + 1 = first + cnt by omega]
      simp
    · rw [if_neg hfull, if_pos (by simp; omega), hcont k _ (by omega) (by simp; omega), if_pos (show first + t = d - 2 by omega)]
      simp
  | succ m ih =>
    intro k t acc ht hcnt hk ha
    obtain ⟨k, rfl⟩ : ∃ q, k = q + 1 := ⟨k - 1, by omega⟩
    have hdm := divmod_of (w := d - 1) (q := r) (e := first + t) (x := f + t) (by omega) (by omega) (by omega) (by omega)
    have hzb : InZB d z b zone (f + t) := ⟨hz0, hz1, by omega, by omega⟩
    have hrec := ih k (t + 1) (acc ++ [⟨1, slotOf d zone r (first + t), r, f + t, 0⟩]) (by omega) (by omega) (by omega) (by simp; omega)
    rw [← Int.add_assoc] at hrec
    simp only [plan_Write.l1]
    rw [w64 (n := f + cnt) (by omega) (by omega), if_pos (by omega), place_in h hzb, hdm.1, hdm.2]
    simp only [Option.bind_some]
    rw [if_pos (by omega), w64 (n := f + t + 1) (by omega) (by omega), hrec]
    conv => rhs; rw [show m + 1 + 1 = (m + 1) + 1 by rfl]
    simp only [stepsR, blockSteps, hdm.1, hdm.2]
    rw [if_neg (show ¬ first + t = d - 2 by omega), if_neg (show ¬ f + t = stop - 1 by omega)]
    simp

theorem drop_rd (L : List S86) (i : Nat) (p : S86) (l : List S86) (h : L.drop i = p :: l) : rd_T86 L i = p ∧ i < L.length ∧ L.drop (i + 1) = l := by
  have hi : i < L.length := by
    rcases Nat.lt_or_ge i L.length with h1 | h1
    · exact h1
    · rw [List.drop_eq_nil_of_le h1] at h; cases h
  rw [List.drop_eq_getElem_cons hi] at h
  injection h with h1 h2
  refine ⟨?_, hi, h2⟩
  unfold rd_T86
  rw [Int.toNat_natCast, List.getD_eq_getElem?_getD, List.getElem?_eq_getElem hi, h1]; rfl

theorem write_l0 {d z b o a : Int} (h : GoodG d z b o a) {zone : Int} (hz0 : 0 ≤ zone) (hz1 : zone ≤ z - 4) (stop : Int) (hstop : stop ≤ (d - 1) * b) (L : List S86) (hL : L.length ≤ 10000) (l : List S86) :
    ∀ (i : Nat) (f n : Int) (k : Nat) (acc : List S37), L.drop i = l → IsP (d - 1) f n l → 0 ≤ f → f + n = stop → 2 * n.toNat + 2 * l.length + 5 ≤ k → acc.length + 2 * n.toNat + 30 ≤ 20000 →
      plan_Write.l0 k zone acc (d - 1) L (L.length : Int) i d z b o a = some (acc ++ stepsR d zone stop n.toNat f, 0) := by
  have hg : 3 ≤ d ∧ d ≤ 16 ∧ b ≤ 256 := by unfold GoodG at h; omega
  have hc := cap_bounds h
  induction l with
  | nil =>
    intro i f n k acc hd hp hf0 hs hk ha
    obtain ⟨k, rfl⟩ : ∃ q, k = q + 1 := ⟨k - 1, by omega⟩
    have hi : L.length ≤ i := by
      rcases Nat.lt_or_ge i L.length with h1 | h1
      · rw [List.drop_eq_getElem_cons h1] at hd; cases hd
      · exact h1
    unfold IsP at hp
    simp only [plan_Write.l0]
    rw [if_neg (by omega), hp]
    simp [stepsR]
  | cons p l ih =>
    intro i f n k acc hd hp hf0 hs hk ha
    obtain ⟨k, rfl⟩ : ∃ q, k = q + 1 := ⟨k - 1, by omega⟩
    obtain ⟨hn, rfl, hp2⟩ := hp
    obtain ⟨hrd, hil, hdrop⟩ := drop_rd L i _ l hd
    have hcb := cntV_bounds (w := d - 1) (f := f) (n := n) (by omega) hn
    have hdm := Int.emod_add_mul_ediv f (d - 1)
    have hr0 := Int.ediv_nonneg hf0 (show 0 ≤ d - 1 by omega)
    have hr1 : f / (d - 1) < b := Int.ediv_lt_of_lt_mul (by omega) (by rw [Int.mul_comm]; omega)
    have hmr := mul_row (d := d) (b := b) (row := f / (d - 1)) hg.1 hr0 (by omega)
    have hx : wrap64 (wrap64 (f / (d - 1) * (d - 1)) + f % (d - 1)) = f := by
      rw [w64 (n := f / (d - 1) * (d - 1)) (by omega) (by omega), Int.mul_comm, w64 (by omega) (by omega)]; omega
    simp only [List.length_cons] at hk
    simp only [plan_Write.l0]
    rw [if_pos (by omega), if_pos (by omega), if_pos (by omega), hrd]
    simp only
    rw [hx]
    have hnn : (cntV (d - 1) f n).toNat + (n - cntV (d - 1) f n).toNat = n.toNat := by omega
    have hc1 : ((cntV (d - 1) f n).toNat : Int) = cntV (d - 1) f n := by omega
    have key := write_l1 h hz0 hz1 stop L (L.length : Int) (i : Int) (f / (d - 1)) (f % (d - 1)) (cntV (d - 1) f n) f (stepsR d zone stop (n - cntV (d - 1) f n).toNat (f + cntV (d - 1) f n)) (2 * (n - cntV (d - 1) f n).toNat + 2 * l.length + 5)
      (by omega) hr0 (by omega) hcb.2.2.1 hcb.2.2.2.1 (by omega) (by omega) (by rw [w64 (by omega) (by omega)])
      (2 * (n - cntV (d - 1) f n).toNat + 30)
      (by
        intro k' acc' hk' ha'
        exact ih (i + 1) (f + cntV (d - 1) f n) (n - cntV (d - 1) f n) k' acc' hdrop hp2 (by omega) (by omega) hk' (by omega))
      ((cntV (d - 1) f n).toNat - 1) k 0 acc (by omega) (by omega) (by omega) (by omega)
    rw [Int.add_zero] at key
    rw [key, show (cntV (d - 1) f n).toNat - 1 + 1 = (cntV (d - 1) f n).toNat by omega, List.append_assoc]
    conv => rhs; rw [← hnn, stepsR_add, hc1]

def InZFN (d z b zone f n : Int) : Prop := 0 ≤ zone ∧ zone ≤ z - 4 ∧ 0 ≤ f ∧ 1 ≤ n ∧ f + n ≤ (d - 1) * b
theorem write_in {d z b o a : Int} (h : GoodG d z b o a) {zone f n : Int} (hi : InZFN d z b zone f n) (k : Nat) (hk : 17000 ≤ k) :
    plan_Write.f k d z b o a zone f n = some (stepsR d zone (f + n) n.toNat f, 0) := by
  obtain ⟨k, rfl⟩ : ∃ q, k = q + 1 := ⟨k - 1, by omega⟩
  have hg := h
  unfold GoodG at hg
  have hc := cap_bounds h
  obtain ⟨h1, h2, h3, h4, h5⟩ := hi
  obtain ⟨L, e1, e2, e3⟩ := pieces_in (w := d - 1) (f := f) (n := n) (by omega) (by omega) h3 h4 (by omega) (by omega) (by omega) k (by omega)
  unfold plan_Write.f
  rw [good_yes h, zones_yes h, capacity_yes h]
  simp only [Option.bind_some, if_true]
  rw [if_neg (by omega), if_neg (by omega), if_neg (by omega), if_neg (by omega), if_neg (by omega), w64 (n := (d - 1) * b - f) (by omega) (by omega), decide_eq_false (by omega)]
  simp only [plan_Write.j0]
  rw [if_neg (by decide), w64 (n := d - 1) (by omega) (by omega), e1]
  simp only [Option.bind_some]
  have := write_l0 h h1 h2 (f + n) h5 L (by omega) L 0 f n k [] (by simp) e2 h3 rfl (by omega) (by simp; omega)
  simpa using this
theorem write_good {d z b o a : Int} (h : GoodG d z b o a) {zone f n : Int} (hf : -9223372036854775808 ≤ f ∧ f ≤ 9223372036854775807) (hi : ¬ InZFN d z b zone f n) (k : Nat) (hk : 1 ≤ k) : plan_Write.f k d z b o a zone f n = some ([], 2) := by
  obtain ⟨k, rfl⟩ : ∃ q, k = q + 1 := ⟨k - 1, by omega⟩
  have hg := h
  unfold GoodG at hg
  have hc := cap_bounds h
  unfold plan_Write.f
  rw [good_yes h, zones_yes h, capacity_yes h]
  simp only [Option.bind_some, if_true, plan_Write.j0]
  by_cases h1 : zone < 0
  · rw [if_pos h1]
  by_cases h2 : zone ≥ z - 3
  · rw [if_neg h1, if_pos h2]
  by_cases h3 : f < 0
  · rw [if_neg h1, if_neg h2, if_pos h3]
  by_cases h4 : n < 1
  · rw [if_neg h1, if_neg h2, if_neg h3, if_pos h4]
  by_cases h5 : f > (d - 1) * b
  · rw [if_neg h1, if_neg h2, if_neg h3, if_neg h4, if_pos h5]
  rw [if_neg h1, if_neg h2, if_neg h3, if_neg h4, if_neg h5, w64 (n := (d - 1) * b - f) (by omega) (by omega), decide_eq_true (by unfold InZFN at hi; omega)]
  simp
theorem write_no {d z b o a : Int} (h : ¬ GoodG d z b o a) (zone f n : Int) (k : Nat) : plan_Write.f k d z b o a zone f n = some ([], 1) := by
  unfold plan_Write.f
  rw [good_no h]; simp
theorem speaks13 (k : Nat) (hk : 17000 ≤ k) : corbellaw13_speaks.f k = some true := by
  unfold corbellaw13_speaks.f
  rw [write_in (show GoodG 3 5 4 1 1 by decide) (zone := 0) (f := 0) (n := 3) (by unfold InZFN; decide) k hk]
  decide
theorem range_sum_succ (f : Nat → Int) (i : Nat) : ((List.range (i + 1)).map f).sum = ((List.range i).map f).sum + f i := by
  rw [List.range_succ, List.map_append, List.sum_append]; simp
theorem sums_loop {d z b o a : Int} (h : GoodG d z b o a) {zone n : Int} (hn0 : 0 ≤ n) (hn1 : n ≤ (d - 1) * b) (m : Nat) :
    ∀ (k i : Nat), d.toNat - i = m → i ≤ d.toNat → m < k → ((List.range i).map fun s : Nat => lenV d zone n (s : Int)).sum ≤ i * 300 → 0 ≤ ((List.range i).map fun s : Nat => lenV d zone n (s : Int)).sum →
      corbellaw13_PlanSums.l0 k n (lensL d zone n) ((List.range i).map fun s : Nat => lenV d zone n (s : Int)).sum i d z b o a = some true := by
  have hd3 : 3 ≤ d ∧ d ≤ 16 := by unfold GoodG at h; omega
  have hc := cap_bounds h
  have hq0 := Int.ediv_nonneg hn0 (show 0 ≤ d - 1 by omega)
  have hq1 : n / (d - 1) ≤ n := Int.ediv_le_self _ hn0
  have hlen : ((lensL d zone n).length : Int) = d := by rw [lensL_length]; omega
  induction m with
  | zero =>
    intro k i hm hi hk hs1 hs0
    obtain ⟨k, rfl⟩ : ∃ q, k = q + 1 := ⟨k - 1, by omega⟩
    have hi' : i = d.toNat := by omega
    simp only [corbellaw13_PlanSums.l0]
    rw [hlen, if_neg (by omega), if_pos rfl, w64 (n := d - 1) (by omega) (by omega), if_neg (by omega), tdiv_pos hn0, w64 (n := n / (d - 1)) (by omega) (by omega), w64 (n := n + n / (d - 1)) (by omega) (by omega)]
    obtain ⟨e, he⟩ := Int.eq_ofNat_of_zero_le hn0
    have := lens_sum d zone hd3.1 e
    rw [hi', he, this]
    simp
  | succ m ih =>
    intro k i hm hi hk hs1 hs0
    obtain ⟨k, rfl⟩ : ∃ q, k = q + 1 := ⟨k - 1, by omega⟩
    have f1 : i < d.toNat := by omega
    have f5 : i ≤ 1000000000000 := by omega
    have hb := lenV_bounds h (zone := zone) (s := (i : Int)) hn0 hn1 (by omega) (by omega)
    have hrd := lensL_rd (d := d) (zone := zone) (n := n) (s := (i : Int)) (by omega) (by omega)
    have hss := range_sum_succ (fun s : Nat => lenV d zone n (s : Int)) i
    have g1 : ((List.range (i + 1)).map fun s : Nat => lenV d zone n (s : Int)).sum ≤ ((i + 1 : Nat) : Int) * 300 := by rw [hss]; omega
    have g2 : 0 ≤ ((List.range (i + 1)).map fun s : Nat => lenV d zone n (s : Int)).sum := by rw [hss]; omega
    have hrec := ih k (i + 1) (by omega) (by omega) (by omega) g1 g2
    rw [hss] at hrec
    simp only [corbellaw13_PlanSums.l0]
    rw [hlen, hrd, if_pos (by omega), if_pos (by omega), w64 (n := d - 1) (by omega) (by omega), if_neg (by omega), tdiv_pos hn0, w64 (n := n / (d - 1)) (by omega) (by omega), if_neg (by omega), w64 (n := n / (d - 1) + 1) (by omega) (by omega), if_neg (by omega), if_neg (by omega), w64 (n := _ + lenV d zone n i) (by omega) (by omega), w_succ f5]
    exact hrec

theorem PlanSums : corbellaw13_PlanSums.Pure := by
  intro d z b o a zone n hd hz hb ho ha hzone hn
  obtain ⟨K, hK⟩ : ∃ K : Nat, 20000 ≤ K := ⟨_, Nat.le_refl _⟩
  refine ⟨K, ?_⟩
  unfold corbellaw13_PlanSums.f
  rw [speaks13 K (by omega)]
  simp only [Option.bind_some, if_true]
  rw [rgood_eq]
  by_cases h : GoodG d z b o a
  · have hg := h
    unfold GoodG at hg
    have hc := cap_bounds h
    rw [decide_eq_true h]
    simp only [Option.bind_some, if_true]
    have t1 : -(z - 3) < Int.tmod zone (z - 3) := Int.lt_tmod_of_pos _ (by omega)
    have t2 : Int.tmod zone (z - 3) < z - 3 := Int.tmod_lt_of_pos _ (by omega)
    have u1 : -((d - 1) * b + 1) < Int.tmod n ((d - 1) * b + 1) := Int.lt_tmod_of_pos _ (by omega)
    have u2 : Int.tmod n ((d - 1) * b + 1) < (d - 1) * b + 1 := Int.tmod_lt_of_pos _ (by omega)
    rw [w64 (n := z - 3) (by omega) (by omega), w64 (n := d - 1) (by omega) (by omega), w64 (n := (d - 1) * b) (by omega) (by omega), w64 (n := (d - 1) * b + 1) (by omega) (by omega), if_neg (by omega), if_neg (by omega),
      w64 (n := Int.tmod zone (z - 3) + z) (by omega) (by omega), w64 (n := Int.tmod zone (z - 3) + z - 3) (by omega) (by omega), tmod_pos (a := Int.tmod zone (z - 3) + z - 3) (by omega),
      w64 (n := Int.tmod n ((d - 1) * b + 1) + (d - 1) * b) (by omega) (by omega), w64 (n := Int.tmod n ((d - 1) * b + 1) + (d - 1) * b + 1) (by omega) (by omega), tmod_pos (a := Int.tmod n ((d - 1) * b + 1) + (d - 1) * b + 1) (by omega)]
    have z0 : 0 ≤ (Int.tmod zone (z - 3) + z - 3) % (z - 3) := Int.emod_nonneg _ (by omega)
    have z1 : (Int.tmod zone (z - 3) + z - 3) % (z - 3) < z - 3 := Int.emod_lt_of_pos _ (by omega)
    have n0 : 0 ≤ (Int.tmod n ((d - 1) * b + 1) + (d - 1) * b + 1) % ((d - 1) * b + 1) := Int.emod_nonneg _ (by omega)
    have n1 : (Int.tmod n ((d - 1) * b + 1) + (d - 1) * b + 1) % ((d - 1) * b + 1) < (d - 1) * b + 1 := Int.emod_lt_of_pos _ (by omega)
    rw [lengths_in h ⟨z0, by omega, n0, by omega⟩ K (by omega)]
    simp only [Option.bind_some]
    exact sums_loop h n0 (by omega) d.toNat K 0 (by omega) (by omega) (by omega) (by simp) (by simp)
  · rw [decide_eq_false h]
    simp
end Go.Proofs.Ytcikcikcjimcjaa.Pure
