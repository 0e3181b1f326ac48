/- GeomOnce: the pure statement, over numbers and lists alone; no conditions. -/
import Derived.Test.YtkokbcijgikkgaaStatGeomOnce
set_option linter.unusedVariables false
set_option linter.unusedSimpArgs false
namespace Go.Proofs.Ytkokbcijgikkgaa.Pure
open Go.RowKit Go.Proofs.Ytkokbcijgikkgaa.PGeomOnce Go.Proofs.YtkokbcijgikkgaaW.PrintWords Go.Proofs.YtkokbcijgikkgaaW.PrintLast Go.Proofs.YtkokbcijgikkgaaW.PrintMore
/-! ### whole numbers -/
theorem wf_i64 {n : Int} (h : (Lit.int .i64 n).wf = true) : -9223372036854775808 ≤ n ∧ n ≤ 9223372036854775807 := by
  simpa [Lit.wf, IntKind.min, IntKind.max, IntKind.signed, IntKind.bits] using h
theorem w64 {n : Int} (h0 : -9223372036854775808 ≤ n) (h1 : n ≤ 9223372036854775807) : wrap64 n = n := by unfold wrap64; omega
theorem tdiv_pos {a b : Int} (ha : 0 ≤ a) : Int.tdiv a b = a / b := Int.tdiv_eq_ediv_of_nonneg ha
theorem tmod_pos {a b : Int} (ha : 0 ≤ a) : Int.tmod a b = a % b := Int.tmod_eq_emod_of_nonneg ha

/-! ### geometries -/
def GoodG (d z b o a : Int) : Prop := 3 ≤ d ∧ d ≤ 16 ∧ 5 ≤ z ∧ z ≤ 64 ∧ 4 ≤ b ∧ b ≤ 256 ∧ 1 ≤ o ∧ o ≤ a ∧ a ≤ z
instance (d z b o a : Int) : Decidable (GoodG d z b o a) := by unfold GoodG; infer_instance

theorem within_eq (n lo hi : Int) : geom_within.f n lo hi = some (decide (lo ≤ n ∧ n ≤ hi)) := by
  unfold geom_within.f
  by_cases h : lo ≤ n
  · rw [if_pos h]; simp [h]
  · rw [if_neg h]; simp [h]

theorem good_eq (d z b o a : Int) : geom_Good.f d z b o a = some (decide (GoodG d z b o a)) := by
  unfold geom_Good.f GoodG
  simp only [within_eq, Option.bind_some]
  by_cases h1 : 3 ≤ d ∧ d ≤ 16
  · by_cases h2 : 5 ≤ z ∧ z ≤ 64
    · by_cases h3 : 4 ≤ b ∧ b ≤ 256
      · by_cases h4 : 1 ≤ o ∧ o ≤ a
        · simp [h1, h2, h3, h4]
        · rw [if_pos (decide_eq_true h1), if_pos (decide_eq_true h2), if_pos (decide_eq_true h3), decide_eq_false h4, if_neg (by decide)]
          congr 1; symm; apply decide_eq_false; omega
      · rw [if_pos (decide_eq_true h1), if_pos (decide_eq_true h2), decide_eq_false h3, if_neg (by decide)]
        congr 1; symm; apply decide_eq_false; omega
    · rw [if_pos (decide_eq_true h1), decide_eq_false h2, if_neg (by decide)]
      congr 1; symm; apply decide_eq_false; omega
  · rw [decide_eq_false h1, if_neg (by decide)]
    congr 1; symm; apply decide_eq_false; omega

theorem good_yes {d z b o a : Int} (h : GoodG d z b o a) : geom_Good.f d z b o a = some true := by rw [good_eq, decide_eq_true h]
theorem good_no {d z b o a : Int} (h : ¬ GoodG d z b o a) : geom_Good.f d z b o a = some false := by rw [good_eq, decide_eq_false h]

theorem zones_yes {d z b o a : Int} (h : GoodG d z b o a) : geom_Zones.f d z b o a = some (z - 3) := by
  unfold geom_Zones.f
  rw [good_yes h]; simp only [Option.bind_some, if_true]
  unfold GoodG at h
  rw [w64 (n := z - 2) (by omega) (by omega), w64 (by omega) (by omega)]
  congr 1; omega
theorem zones_no {d z b o a : Int} (h : ¬ GoodG d z b o a) : geom_Zones.f d z b o a = some 0 := by
  unfold geom_Zones.f
  rw [good_no h]; simp

theorem cap_bounds {d z b o a : Int} (h : GoodG d z b o a) : 8 ≤ (d - 1) * b ∧ (d - 1) * b ≤ 3840 := by
  unfold GoodG at h
  have h1 : (2 : Int) * 4 ≤ (d - 1) * b := Int.mul_le_mul (by omega) (by omega) (by omega) (by omega)
  have h2 : (d - 1) * b ≤ 15 * 256 := Int.mul_le_mul (by omega) (by omega) (by omega) (by omega)
  omega

theorem capacity_yes {d z b o a : Int} (h : GoodG d z b o a) : geom_Capacity.f d z b o a = some ((d - 1) * b) := by
  unfold geom_Capacity.f
  rw [good_yes h]; simp only [Option.bind_some, if_true]
  have hc := cap_bounds h
  unfold GoodG at h
  rw [w64 (n := d - 1) (by omega) (by omega), w64 (by omega) (by omega)]
theorem capacity_no {d z b o a : Int} (h : ¬ GoodG d z b o a) : geom_Capacity.f d z b o a = some 0 := by
  unfold geom_Capacity.f
  rw [good_no h]; simp

theorem there_yes {d z b o a : Int} (h : GoodG d z b o a) (zone row : Int) : geom_there.f d z b o a zone row = some (decide (0 ≤ zone ∧ zone ≤ z - 4 ∧ 0 ≤ row ∧ row ≤ b - 1)) := by
  unfold geom_there.f
  rw [zones_yes h]; simp only [Option.bind_some]
  unfold GoodG at h
  rw [w64 (n := z - 3 - 1) (by omega) (by omega), w64 (n := b - 1) (by omega) (by omega)]
  simp only [within_eq, Option.bind_some]
  by_cases h1 : 0 ≤ zone ∧ zone ≤ z - 3 - 1
  · rw [if_pos (decide_eq_true h1)]
    congr 1
    by_cases h2 : 0 ≤ row ∧ row ≤ b - 1
    · rw [decide_eq_true h2, decide_eq_true]; omega
    · rw [decide_eq_false h2, decide_eq_false]; omega
  · rw [decide_eq_false h1, if_neg (by decide)]
    congr 1; symm; apply decide_eq_false; omega
theorem there_no {d z b o a : Int} (h : ¬ GoodG d z b o a) (zone row : Int) : geom_there.f d z b o a zone row = some false := by
  unfold geom_there.f
  rw [zones_no h]; simp only [Option.bind_some]
  rw [w64 (n := 0 - 1) (by omega) (by omega)]
  simp only [within_eq, Option.bind_some]
  rw [decide_eq_false (by omega), if_neg (by decide)]

def InZR (z b zone row : Int) : Prop := 0 ≤ zone ∧ zone ≤ z - 4 ∧ 0 ≤ row ∧ row ≤ b - 1
instance (z b zone row : Int) : Decidable (InZR z b zone row) := by unfold InZR; infer_instance

theorem parity_yes {d z b o a : Int} (h : GoodG d z b o a) {zone row : Int} (hi : InZR z b zone row) : geom_Parity.f d z b o a zone row = some ((zone + row) % d) := by
  unfold geom_Parity.f
  rw [there_yes h, decide_eq_true (show 0 ≤ zone ∧ zone ≤ z - 4 ∧ 0 ≤ row ∧ row ≤ b - 1 from hi)]; simp only [Option.bind_some, if_true]
  unfold GoodG at h; unfold InZR at hi
  rw [if_neg (by omega), w64 (by omega) (by omega), tmod_pos (by omega)]
theorem parity_out {d z b o a : Int} (h : GoodG d z b o a) {zone row : Int} (hi : ¬ InZR z b zone row) : geom_Parity.f d z b o a zone row = some (-1) := by
  unfold geom_Parity.f
  rw [there_yes h, decide_eq_false (show ¬ (0 ≤ zone ∧ zone ≤ z - 4 ∧ 0 ≤ row ∧ row ≤ b - 1) from hi)]; simp
theorem parity_no {d z b o a : Int} (h : ¬ GoodG d z b o a) (zone row : Int) : geom_Parity.f d z b o a zone row = some (-1) := by
  unfold geom_Parity.f
  rw [there_no h]; simp

def InZB (d z b zone block : Int) : Prop := 0 ≤ zone ∧ zone ≤ z - 4 ∧ 0 ≤ block ∧ block ≤ (d - 1) * b - 1
instance (d z b zone block : Int) : Decidable (InZB d z b zone block) := by unfold InZB; infer_instance

theorem row_bounds {d b block : Int} (hd : 3 ≤ d) (h0 : 0 ≤ block) (h1 : block ≤ (d - 1) * b - 1) : 0 ≤ block / (d - 1) ∧ block / (d - 1) ≤ b - 1 ∧ 0 ≤ block % (d - 1) ∧ block % (d - 1) < d - 1 := by
  refine ⟨Int.ediv_nonneg h0 (by omega), ?_, Int.emod_nonneg _ (by omega), Int.emod_lt_of_pos _ (by omega)⟩
  have h2 : block / (d - 1) < b := by
    apply Int.ediv_lt_of_lt_mul (by omega)
    rw [Int.mul_comm]; omega
  omega

def slotOf (d zone row k : Int) : Int := ((zone + row) % d + 1 + k) % d

theorem place_in {d z b o a : Int} (h : GoodG d z b o a) {zone block : Int} (hi : InZB d z b zone block) :
    geom_Place.f d z b o a zone block = some (block / (d - 1), slotOf d zone (block / (d - 1)) (block % (d - 1)), true) := by
  have hc := cap_bounds h
  have hr := row_bounds (d := d) (b := b) (by unfold GoodG at h; omega) hi.2.2.1 hi.2.2.2
  have hz : InZR z b zone (block / (d - 1)) := ⟨hi.1, hi.2.1, hr.1, hr.2.1⟩
  have hp : 0 ≤ (zone + block / (d - 1)) % d ∧ (zone + block / (d - 1)) % d < d := ⟨Int.emod_nonneg _ (by unfold GoodG at h; omega), Int.emod_lt_of_pos _ (by unfold GoodG at h; omega)⟩
  unfold geom_Place.f
  rw [there_yes h, decide_eq_true (by unfold InZB at hi; unfold GoodG at h; omega)]
  simp only [Option.bind_some, if_true]
  rw [capacity_yes h]; simp only [Option.bind_some]
  have hg := h
  unfold GoodG at h; unfold InZB at hi
  rw [w64 (n := (d - 1) * b - 1) (by omega) (by omega), within_eq, decide_eq_true (by omega)]
  simp only [Option.bind_some, if_true]
  rw [w64 (n := d - 1) (by omega) (by omega), if_neg (by omega), tdiv_pos (by omega), w64 (n := block / (d - 1)) (by omega) (by omega), parity_yes hg hz]
  simp only [Option.bind_some]
  rw [if_neg (by omega), tmod_pos (a := block) (by omega), w64 (n := (zone + block / (d - 1)) % d + 1) (by omega) (by omega), w64 (by omega) (by omega), tmod_pos (by omega)]
  rfl
theorem place_out {d z b o a : Int} (h : GoodG d z b o a) {zone block : Int} (hi : ¬ InZB d z b zone block) : geom_Place.f d z b o a zone block = some (0, 0, false) := by
  have hc := cap_bounds h
  unfold geom_Place.f
  rw [there_yes h]; simp only [Option.bind_some]
  by_cases hz : 0 ≤ zone ∧ zone ≤ z - 4 ∧ (0 : Int) ≤ 0 ∧ 0 ≤ b - 1
  · rw [if_pos (decide_eq_true hz), capacity_yes h]; simp only [Option.bind_some]
    rw [w64 (n := (d - 1) * b - 1) (by omega) (by omega), within_eq, decide_eq_false (by unfold InZB at hi; omega)]
    simp
  · rw [decide_eq_false hz, if_neg (by decide)]
theorem place_no {d z b o a : Int} (h : ¬ GoodG d z b o a) (zone block : Int) : geom_Place.f d z b o a zone block = some (0, 0, false) := by
  unfold geom_Place.f
  rw [there_no h]; simp
theorem speaks04 : corbellaw04_speaks.f = some true := by
  have hg : GoodG 3 5 4 1 1 := by decide
  unfold corbellaw04_speaks.f
  rw [place_in hg (zone := 0) (block := 2) (by decide), good_yes hg, capacity_yes hg, zones_yes hg]
  decide
/-! ### bits of whole numbers -/
theorem or_nat (a b : Nat) (ha : a < 2 ^ 63) (hb : b < 2 ^ 63) : Go.bits .or .i64 (a : Int) (b : Int) = ((a ||| b : Nat) : Int) :=
  (bits_nat .i64 63 (by decide) (fun n h0 h1 => by rw [IntKind.wrap_i64]; have : (2 : Int) ^ 63 = 9223372036854775808 := by decide
                                                   omega) a b ha hb).2
theorem shl_one (t : Nat) (h : t ≤ 62) : shl .i64 1 (t : Int) = ((2 ^ t : Nat) : Int) := by
  unfold shl
  have hm : min (t : Int).toNat IntKind.i64.bits = t := by
    have : IntKind.i64.bits = 64 := rfl
    rw [this]; omega
  rw [hm, IntKind.wrap_i64, Int.one_mul]
  have h1 : 2 ^ t ≤ 2 ^ 62 := Nat.pow_le_pow_right (by decide) h
  have h2 : ((2 : Int) ^ t) = ((2 ^ t : Nat) : Int) := by simp
  rw [h2]
  have h3 : (2 : Nat) ^ 62 = 4611686018427387904 := by decide
  rw [h3] at h1
  generalize 2 ^ t = q at h1 ⊢
  omega
theorem ones_of (m d : Nat) (h : ∀ t, m.testBit t = true ↔ t < d) : m = 2 ^ d - 1 := by
  apply Nat.eq_of_testBit_eq
  intro t
  rw [Nat.testBit_two_pow_sub_one]
  by_cases ht : t < d
  · rw [(h t).2 ht, decide_eq_true ht]
  · rw [decide_eq_false ht]
    cases hb : m.testBit t with
    | false => rfl
    | true => exact absurd ((h t).1 hb) ht
theorem lt_of_bits (m d : Nat) (h : ∀ t, m.testBit t = true → t < d) : m < 2 ^ d := by
  apply Nat.lt_pow_two_of_testBit
  intro t ht
  cases hb : m.testBit t with
  | false => rfl
  | true => have := h t hb; omega
theorem or_bit (m t u : Nat) : (m ||| 2 ^ t).testBit u = true ↔ m.testBit u = true ∨ t = u := by
  rw [Nat.testBit_or, Bool.or_eq_true, Nat.testBit_two_pow, decide_eq_true_iff]
/-! ### what lies at a spot -/
def kOf (d p drive : Int) : Int := if p < drive then drive - p - 1 else drive - p - 1 + d
def sOf (d p k : Int) : Int := if p + 1 + k < d then p + 1 + k else p + 1 + k - d
theorem kOf_mod {d p drive : Int} (h0 : 0 ≤ p) (h1 : p < d) (h2 : 0 ≤ drive) (h3 : drive < d) (h4 : drive ≠ p) : (drive - p - 1 + d) % d = kOf d p drive := by
  unfold kOf
  split
  · rw [Int.add_emod_right]; exact Int.emod_eq_of_lt (by omega) (by omega)
  · exact Int.emod_eq_of_lt (by omega) (by omega)
theorem kOf_range {d p drive : Int} (h0 : 0 ≤ p) (h1 : p < d) (h2 : 0 ≤ drive) (h3 : drive < d) (h4 : drive ≠ p) : 0 ≤ kOf d p drive ∧ kOf d p drive ≤ d - 2 := by
  unfold kOf; split <;> omega
theorem sOf_mod {d p k : Int} (h0 : 0 ≤ p) (h1 : p < d) (h2 : 0 ≤ k) (h3 : k ≤ d - 2) : (p + 1 + k) % d = sOf d p k := by
  unfold sOf
  split
  · exact Int.emod_eq_of_lt (by omega) (by omega)
  · rw [show p + 1 + k = (p + 1 + k - d) + d by omega, Int.add_emod_right, show p + 1 + k - d + d - d = p + 1 + k - d by omega]; exact Int.emod_eq_of_lt (by omega) (by omega)
theorem sOf_range {d p k : Int} (h0 : 0 ≤ p) (h1 : p < d) (h2 : 0 ≤ k) (h3 : k ≤ d - 2) : 0 ≤ sOf d p k ∧ sOf d p k < d ∧ sOf d p k ≠ p := by
  unfold sOf; split <;> omega
theorem sOf_kOf {d p drive : Int} (h0 : 0 ≤ p) (h1 : p < d) (h2 : 0 ≤ drive) (h3 : drive < d) (h4 : drive ≠ p) : sOf d p (kOf d p drive) = drive := by
  unfold sOf kOf; split <;> split <;> omega
theorem kOf_sOf {d p k : Int} (h0 : 0 ≤ p) (h1 : p < d) (h2 : 0 ≤ k) (h3 : k ≤ d - 2) : kOf d p (sOf d p k) = k := by
  unfold sOf kOf; split <;> split <;> omega
theorem par_range (d zone row : Int) (hd : 3 ≤ d) : 0 ≤ (zone + row) % d ∧ (zone + row) % d < d := ⟨Int.emod_nonneg _ (by omega), Int.emod_lt_of_pos _ (by omega)⟩

theorem slotOf_eq {d zone row k : Int} (hd : 3 ≤ d) (h2 : 0 ≤ k) (h3 : k ≤ d - 2) : slotOf d zone row k = sOf d ((zone + row) % d) k :=
  sOf_mod (par_range d zone row hd).1 (par_range d zone row hd).2 h2 h3

theorem mul_row {d b row : Int} (hd : 3 ≤ d) (h0 : 0 ≤ row) (h1 : row ≤ b - 1) : 0 ≤ row * (d - 1) ∧ row * (d - 1) ≤ (d - 1) * b - (d - 1) := by
  refine ⟨Int.mul_nonneg h0 (by omega), ?_⟩
  have := Int.mul_le_mul_of_nonneg_right h1 (show 0 ≤ d - 1 by omega)
  rw [Int.sub_mul, Int.one_mul, Int.mul_comm b] at this
  exact this
theorem row_div {d row k : Int} (hd : 3 ≤ d) (h2 : 0 ≤ k) (h3 : k ≤ d - 2) : (row * (d - 1) + k) / (d - 1) = row ∧ (row * (d - 1) + k) % (d - 1) = k := by
  constructor
  · rw [Int.add_comm, Int.add_mul_ediv_right _ _ (by omega), Int.ediv_eq_zero_of_lt h2 (by omega)]; omega
  · rw [Int.add_comm, Int.add_mul_emod_self_right]; exact Int.emod_eq_of_lt h2 (by omega)

theorem back_in {d z b o a : Int} (h : GoodG d z b o a) {zone row drive : Int} (hi : InZR z b zone row) (h2 : 0 ≤ drive) (h3 : drive < d) (h4 : drive ≠ (zone + row) % d) :
    geom_Back.f d z b o a zone row drive = some (row * (d - 1) + kOf d ((zone + row) % d) drive, true) := by
  have hg := h
  unfold GoodG at hg
  have hp := par_range d zone row (by omega)
  have hk := kOf_range hp.1 hp.2 h2 h3 h4
  have hm := mul_row (d := d) (b := b) (row := row) (by omega) hi.2.2.1 hi.2.2.2
  have hc := cap_bounds h
  unfold geom_Back.f
  rw [parity_yes h hi]; simp only [Option.bind_some]
  rw [if_neg (by omega), if_neg (by omega), w64 (n := d - 1) (by omega) (by omega), within_eq, decide_eq_true (by omega)]
  simp only [Option.bind_some, if_true]
  rw [if_neg (by omega), w64 (n := drive - (zone + row) % d) (by omega) (by omega), w64 (n := drive - (zone + row) % d - 1) (by omega) (by omega), w64 (n := drive - (zone + row) % d - 1 + d) (by omega) (by omega), tmod_pos (by omega), kOf_mod hp.1 hp.2 h2 h3 h4, w64 (n := row * (d - 1)) (by omega) (by omega), w64 (by omega) (by omega)]
theorem back_par {d z b o a : Int} (h : GoodG d z b o a) {zone row : Int} (hi : InZR z b zone row) : geom_Back.f d z b o a zone row ((zone + row) % d) = some (0, false) := by
  have hg := h
  unfold GoodG at hg
  have hp := par_range d zone row (by omega)
  unfold geom_Back.f
  rw [parity_yes h hi]; simp only [Option.bind_some]
  rw [if_neg (by omega), if_pos trivial]
theorem back_drive {d z b o a : Int} (h : GoodG d z b o a) {zone row drive : Int} (hi : InZR z b zone row) (h2 : drive < 0 ∨ d ≤ drive) : geom_Back.f d z b o a zone row drive = some (0, false) := by
  have hg := h
  unfold GoodG at hg
  have hp := par_range d zone row (by omega)
  unfold geom_Back.f
  rw [parity_yes h hi]; simp only [Option.bind_some]
  rw [if_neg (by omega), if_neg (by omega), w64 (n := d - 1) (by omega) (by omega), within_eq, decide_eq_false (by omega)]
  simp
theorem back_out {d z b o a : Int} (h : GoodG d z b o a) {zone row : Int} (hi : ¬ InZR z b zone row) (drive : Int) : geom_Back.f d z b o a zone row drive = some (0, false) := by
  unfold geom_Back.f
  rw [parity_out h hi]; simp
theorem back_no {d z b o a : Int} (h : ¬ GoodG d z b o a) (zone row drive : Int) : geom_Back.f d z b o a zone row drive = some (0, false) := by
  unfold geom_Back.f
  rw [parity_no h]; simp
theorem wrap_mod (x n : Int) (hn : 0 < n) (hn2 : n ≤ 100000) : 0 ≤ Int.tmod (wrap64 (Int.tmod x n + n)) n ∧ Int.tmod (wrap64 (Int.tmod x n + n)) n < n := by
  have h1 : -n < Int.tmod x n := Int.lt_tmod_of_pos x hn
  have h2 : Int.tmod x n < n := Int.tmod_lt_of_pos x hn
  rw [w64 (by omega) (by omega), tmod_pos (by omega)]
  exact ⟨Int.emod_nonneg _ (by omega), Int.emod_lt_of_pos _ (by omega)⟩
theorem once_loop {d z b o a : Int} (h : GoodG d z b o a) (zone row : Int) (hi : InZR z b zone row) (n : Nat) :
    ∀ (k : Nat) (i : Int) (m : Nat), 0 ≤ i → i ≤ d → d - i = n → n < k →
      (∀ t : Nat, m.testBit t = true ↔ ∃ j : Int, 0 ≤ j ∧ j < i ∧ j ≠ (zone + row) % d ∧ kOf d ((zone + row) % d) j = t) →
      corbellaw04_GeomOnce.l0 k zone row (m : Int) i d z b o a d z b o a = some true := by
  have hd : 3 ≤ d ∧ d ≤ 16 := by unfold GoodG at h; omega
  have hp := par_range d zone row hd.1
  have hc := cap_bounds h
  induction n with
  | zero =>
    intro k i m h0 h1 hn hk hm
    obtain ⟨k, rfl⟩ : ∃ q, k = q + 1 := ⟨k - 1, by omega⟩
    have hi' : i = d := by omega
    subst hi'
    simp only [corbellaw04_GeomOnce.l0]
    rw [if_neg (by omega), w64 (n := i - 1) (by omega) (by omega), if_pos (by omega)]
    obtain ⟨e, he⟩ := Int.eq_ofNat_of_zero_le (show 0 ≤ i - 1 by omega)
    have hm' : m = 2 ^ e - 1 := by
      apply ones_of
      intro t
      rw [hm t]
      constructor
      · rintro ⟨j, h2, h3, h4, hj⟩
        have := kOf_range hp.1 hp.2 h2 h3 h4
        omega
      · intro ht
        have hs := sOf_range hp.1 hp.2 (k := (t : Int)) (by omega) (by omega)
        exact ⟨sOf i ((zone + row) % i) t, hs.1, hs.2.1, hs.2.2, kOf_sOf hp.1 hp.2 (by omega) (by omega)⟩
    have hp : 1 ≤ 2 ^ e := Nat.one_le_two_pow
    have hp2 : 2 ^ e ≤ 2 ^ 16 := Nat.pow_le_pow_right (by decide) (by omega)
    have h16 : (2 : Nat) ^ 16 = 65536 := by decide
    rw [he, shl_one e (by omega), hm', w64 (by omega) (by omega)]
    congr 1
    rw [beq_iff_eq]
    omega
  | succ n ih =>
    intro k i m h0 h1 hn hk hm
    obtain ⟨k, rfl⟩ : ∃ q, k = q + 1 := ⟨k - 1, by omega⟩
    simp only [corbellaw04_GeomOnce.l0]
    rw [if_pos (by omega), parity_yes h hi]
    have hw : wrap64 (i + 1) = i + 1 := w64 (by omega) (by omega)
    by_cases hip : i = (zone + row) % d
    · rw [hip, back_par h hi, ← hip]
      simp only [Option.bind_some]
      have e1 : ((false == (i == i)) = true) = False := by simp
      rw [if_neg (by simp), if_neg (by decide), hw]
      refine ih k (i + 1) m (by omega) (by omega) (by omega) (by omega) ?_
      intro u
      rw [hm u]
      constructor
      · rintro ⟨j, h2, h3, h4, hj⟩; exact ⟨j, h2, by omega, h4, hj⟩
      · rintro ⟨j, h2, h3, h4, hj⟩; exact ⟨j, h2, by omega, h4, hj⟩
    · rw [back_in h hi h0 (by omega) hip]
      have hk := kOf_range hp.1 hp.2 h0 (show i < d by omega) hip
      have hm1 := mul_row (d := d) (b := b) (row := row) (by omega) hi.2.2.1 hi.2.2.2
      have hrd := row_div (d := d) (row := row) (by omega) hk.1 hk.2
      have hzb : InZB d z b zone (row * (d - 1) + kOf d ((zone + row) % d) i) := ⟨hi.1, hi.2.1, by omega, by omega⟩
      simp only [Option.bind_some]
      rw [if_neg (by simp [hip]), if_pos trivial, place_in h hzb, hrd.1, hrd.2, slotOf_eq hd.1 hk.1 hk.2, sOf_kOf hp.1 hp.2 h0 (by omega) hip]
      simp only [Option.bind_some, if_true]
      rw [w64 (n := d - 1) (by omega) (by omega), if_neg (by omega), tdiv_pos (by omega), hrd.1, w64 (n := row) (by unfold InZR at hi; unfold GoodG at h; omega) (by unfold InZR at hi; unfold GoodG at h; omega), if_pos rfl, tmod_pos (by omega), hrd.2, if_pos hk.1, hw]
      obtain ⟨t, ht⟩ := Int.eq_ofNat_of_zero_le hk.1
      have hmlt : m < 2 ^ 16 := by
        apply lt_of_bits
        intro u hu
        obtain ⟨j, h2, h3, h4, hj⟩ := (hm u).1 hu
        have := kOf_range hp.1 hp.2 h2 (show j < d by omega) h4
        omega
      have h63 : (2 : Nat) ^ 16 ≤ 2 ^ 62 := by decide
      have h62 : (2 : Nat) ^ 62 < 2 ^ 63 := by decide
      have ht2 : 2 ^ t ≤ 2 ^ 62 := Nat.pow_le_pow_right (by decide) (by omega)
      rw [ht, shl_one t (by omega), or_nat m (2 ^ t) (by omega) (by omega)]
      refine ih k (i + 1) (m ||| 2 ^ t) (by omega) (by omega) (by omega) (by omega) ?_
      intro u
      rw [or_bit, hm u]
      constructor
      · rintro (⟨j, h2, h3, h4, hj⟩ | rfl)
        · exact ⟨j, h2, by omega, h4, hj⟩
        · exact ⟨i, h0, by omega, hip, ht⟩
      · rintro ⟨j, h2, h3, h4, hj⟩
        rcases Int.lt_or_le j i with hlt | hge
        · exact .inl ⟨j, h2, hlt, h4, hj⟩
        · have : j = i := by omega
          subst this
          exact .inr (by omega)

theorem GeomOnce : corbellaw04_GeomOnce.Pure := by
  intro d z b o a zone row hd hz hb ho ha hzone hrow
  refine ⟨100, ?_⟩
  unfold corbellaw04_GeomOnce.f
  rw [speaks04]
  simp only [Option.bind_some, if_true]
  by_cases h : GoodG d z b o a
  · rw [good_yes h, zones_yes h]
    simp only [Option.bind_some, if_true]
    have hg := h
    unfold GoodG at hg
    rw [if_neg (by omega), if_neg (by omega), if_neg (by omega)]
    have h1 := wrap_mod zone (z - 3) (by omega) (by omega)
    have h2 := wrap_mod row b (by omega) (by omega)
    exact once_loop h _ _ ⟨h1.1, by omega, h2.1, by omega⟩ d.toNat 100 0 0 (by omega) (by omega) (by omega) (by omega) (by intro t; simp; intro j h0 h1; omega)
  · rw [good_no h]
    simp
end Go.Proofs.Ytkokbcijgikkgaa.Pure
