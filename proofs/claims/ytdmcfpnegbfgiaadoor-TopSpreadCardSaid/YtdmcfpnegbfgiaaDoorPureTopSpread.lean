/- TopSpread: the pure statement, over numbers and lists alone; no conditions. -/
import Derived.Test.YtdmcfpnegbfgiaaDoorStatTopSpread
set_option linter.unusedVariables false
set_option linter.unusedSimpArgs false
namespace Go.Proofs.YtdmcfpnegbfgiaaDoor.Pure
open Go Go.RowKit Go.Proofs.YtdmcfpnegbfgiaaDoor.Ev
/-! ### whole numbers -/
theorem wf_i64 {n : Int} (h : Ty.wf (.int .i64) n) : -9223372036854775808 ≤ n ∧ n ≤ 9223372036854775807 := by
  have h : (Lit.int .i64 n).wf = true := h
  simpa [Lit.wf, IntKind.min, IntKind.max, IntKind.signed, IntKind.bits] using h
theorem w64 {n : Int} (h0 : -9223372036854775808 ≤ n) (h1 : n ≤ 9223372036854775807) : wrap64 n = n := by unfold wrap64; omega
theorem tdiv_pos {a b : Int} (ha : 0 ≤ a) : Int.tdiv a b = a / b := Int.tdiv_eq_ediv_of_nonneg ha
theorem tmod_pos {a b : Int} (ha : 0 ≤ a) : Int.tmod a b = a % b := Int.tmod_eq_emod_of_nonneg ha
theorem bytesOf_append (a b : List Int) : bytesOf a ++ bytesOf b = bytesOf (a ++ b) := by
  apply ByteArray.ext
  simp [bytesOf]
theorem cond_t {α : Type} {c : Bool} {a b : α} (h : c = true) : (bif c then a else b) = a := by rw [h]; rfl
theorem cond_f {α : Type} {c : Bool} {a b : α} (h : c = false) : (bif c then a else b) = b := by rw [h]; rfl
theorem optb_some {α β : Type} (a : α) (f : α → Option β) : optb (some a) f = f a := rfl
theorem and_mask (x : Int) (i : Nat) (hi : i ≤ 62) : bitop .and .i64 x (2 ^ i - 1) = x % 2 ^ i := by
  have h2 : (2 : Nat) ^ i ≤ 2 ^ 62 := Nat.pow_le_pow_right (by decide) hi
  have h62 : (2 : Nat) ^ 62 = 4611686018427387904 := by decide
  have h64 : (2 : Nat) ^ 64 = 18446744073709551616 := by decide
  have hp : 0 < 2 ^ i := Nat.two_pow_pos i
  have hc : ((2 : Int) ^ i - 1) = ((2 ^ i - 1 : Nat) : Int) := by rw [Int.natCast_sub hp]; simp
  have hd : (2 ^ i : Nat) ∣ 2 ^ 64 := Nat.pow_dvd_pow 2 (by omega)
  have hb : IntKind.i64.bits = 64 := rfl
  have key : ((BitVec.ofInt 64 x &&& BitVec.ofInt 64 (2 ^ i - 1)).toNat : Int) = x % 2 ^ i := by
    rw [hc, BitVec.ofInt_natCast, BitVec.toNat_and, BitVec.toNat_ofNat, Nat.mod_eq_of_lt (show 2 ^ i - 1 < 2 ^ 64 by omega), Nat.and_two_pow_sub_one_eq_mod, BitVec.toNat_ofInt,
      Int.natCast_emod, Int.toNat_of_nonneg (Int.emod_nonneg _ (by decide)), Int.emod_emod_of_dvd]
    · simp
    · exact Int.natCast_dvd_natCast.2 hd
  have hlt : ((BitVec.ofInt 64 x &&& BitVec.ofInt 64 (2 ^ i - 1)).toNat : Int) < 4611686018427387904 := by
    rw [key]
    have : x % ((2 ^ i : Nat) : Int) < ((2 ^ i : Nat) : Int) := Int.emod_lt_of_pos _ (by omega)
    have e : ((2 ^ i : Nat) : Int) = (2 : Int) ^ i := by simp
    rw [e] at this
    have : (2 : Int) ^ i ≤ 4611686018427387904 := by rw [← e]; omega
    omega
  show IntKind.i64.wrap ((BitVec.ofInt 64 x &&& BitVec.ofInt 64 (2 ^ i - 1)).toNat : Int) = x % 2 ^ i
  rw [IntKind.wrap_i64]
  omega
/-! ### the shape of an array of drives -/
def GG (a0 a1 a2 a3 a4 : Int) : Prop := 3 ≤ a0 ∧ a0 ≤ 16 ∧ 5 ≤ a1 ∧ a1 ≤ 64 ∧ 4 ≤ a2 ∧ a2 ≤ 256 ∧ 1 ≤ a3 ∧ a3 ≤ a4 ∧ a4 ≤ a1
instance (a0 a1 a2 a3 a4 : Int) : Decidable (GG a0 a1 a2 a3 a4) := by unfold GG; infer_instance
theorem within_val (k : Nat) (n l h : Int) : geom_within k n l h = some (decide (l ≤ n ∧ n ≤ h)) := by
  unfold geom_within
  by_cases a : l ≤ n <;> simp [a]
theorem good_val (k : Nat) (a0 a1 a2 a3 a4 : Int) : geom_Good k a0 a1 a2 a3 a4 = some (decide (GG a0 a1 a2 a3 a4)) := by
  unfold geom_Good
  simp only [within_val, optb]
  by_cases h1 : 3 ≤ a0 ∧ a0 ≤ 16 <;> by_cases h2 : 5 ≤ a1 ∧ a1 ≤ 64 <;> by_cases h3 : 4 ≤ a2 ∧ a2 ≤ 256 <;> by_cases h4 : 1 ≤ a3 ∧ a3 ≤ a4 <;> simp only [h1, h2, h3, h4, decide_true, decide_false, cond_true, cond_false, Option.some.injEq, decide_eq_decide, and_self] <;> first | (unfold GG; omega) | (symm; rw [decide_eq_false_iff_not]; unfold GG; omega)
section
variable {a0 a1 a2 a3 a4 : Int}
theorem cap_bound (h : GG a0 a1 a2 a3 a4) : 8 ≤ (a0 - 1) * a2 ∧ (a0 - 1) * a2 ≤ 3840 := by
  obtain ⟨h1, h2, _, _, h5, h6, _⟩ := h
  have e1 : 2 * 4 ≤ (a0 - 1) * a2 := Int.mul_le_mul (by omega) h5 (by omega) (by omega)
  have e2 : (a0 - 1) * a2 ≤ 15 * 256 := Int.mul_le_mul (by omega) h6 (by omega) (by omega)
  omega
theorem zones_yes (k : Nat) (h : GG a0 a1 a2 a3 a4) : geom_Zones k a0 a1 a2 a3 a4 = some (a1 - 3) := by
  unfold geom_Zones
  rw [good_val, decide_eq_true h]
  obtain ⟨_, _, h1, h2, _⟩ := h
  show some _ = _
  rw [w64 (n := a1 - 2) (by omega) (by omega), w64 (by omega) (by omega)]
  congr 1; omega
theorem zones_no (k : Nat) (h : ¬ GG a0 a1 a2 a3 a4) : geom_Zones k a0 a1 a2 a3 a4 = some 0 := by
  unfold geom_Zones
  rw [good_val, decide_eq_false h]; rfl
theorem cap_yes (k : Nat) (h : GG a0 a1 a2 a3 a4) : geom_Capacity k a0 a1 a2 a3 a4 = some ((a0 - 1) * a2) := by
  unfold geom_Capacity
  rw [good_val, decide_eq_true h]
  have hb := cap_bound h
  obtain ⟨h1, h2, _⟩ := h
  show some _ = _
  rw [w64 (n := a0 - 1) (by omega) (by omega), w64 (by omega) (by omega)]
theorem cap_no (k : Nat) (h : ¬ GG a0 a1 a2 a3 a4) : geom_Capacity k a0 a1 a2 a3 a4 = some 0 := by
  unfold geom_Capacity
  rw [good_val, decide_eq_false h]; rfl
theorem there_yes (k : Nat) (h : GG a0 a1 a2 a3 a4) (z r : Int) : geom_there k a0 a1 a2 a3 a4 z r = some (decide (0 ≤ z ∧ z < a1 - 3 ∧ 0 ≤ r ∧ r < a2)) := by
  unfold geom_there
  rw [zones_yes k h]
  obtain ⟨h1, h2, h3, h4, h5, h6, _⟩ := h
  simp only [optb, within_val]
  rw [w64 (n := a1 - 3 - 1) (by omega) (by omega), w64 (n := a2 - 1) (by omega) (by omega)]
  by_cases h7 : 0 ≤ z ∧ z ≤ a1 - 3 - 1
  · rw [decide_eq_true h7]
    simp only [cond_true, Option.some.injEq, decide_eq_decide]
    omega
  · rw [decide_eq_false h7, decide_eq_false (show ¬ (0 ≤ z ∧ z < a1 - 3 ∧ 0 ≤ r ∧ r < a2) by omega)]; rfl
theorem there_no (k : Nat) (h : ¬ GG a0 a1 a2 a3 a4) (z r : Int) : geom_there k a0 a1 a2 a3 a4 z r = some false := by
  unfold geom_there
  rw [zones_no k h]
  simp only [optb, within_val]
  have : wrap64 (0 - 1) = -1 := by kernel_rfl
  rw [this, decide_eq_false (by omega)]; rfl
end
/-! ### where a block lies -/
def sl (d z r p : Int) : Int := ((z + r) % d + 1 + p) % d
theorem sl_lt {d : Int} (hd : 0 < d) (z r p : Int) : 0 ≤ sl d z r p ∧ sl d z r p < d := ⟨Int.emod_nonneg _ (by omega), Int.emod_lt_of_pos _ hd⟩
section
variable {a0 a1 a2 a3 a4 : Int}
theorem par_yes (k : Nat) (h : GG a0 a1 a2 a3 a4) {z r : Int} (t : 0 ≤ z ∧ z < a1 - 3 ∧ 0 ≤ r ∧ r < a2) : geom_Parity k a0 a1 a2 a3 a4 z r = some ((z + r) % a0) := by
  unfold geom_Parity
  rw [there_yes k h, decide_eq_true t]
  obtain ⟨h1, h2, h3, h4, h5, h6, _⟩ := h
  simp only [optb, Bool.not_true, cond_false]
  rw [decide_eq_false (show ¬ a0 = 0 by omega), cond_false, w64 (by omega) (by omega), tmod_pos (by omega)]
theorem block_row {d b rows : Int} (hd : 3 ≤ d) (hb : 0 ≤ b) (hc : b < (d - 1) * rows) : 0 ≤ b / (d - 1) ∧ b / (d - 1) < rows ∧ 0 ≤ b % (d - 1) ∧ b % (d - 1) < d - 1 := by
  refine ⟨Int.ediv_nonneg hb (by omega), Int.ediv_lt_of_lt_mul (by omega) ?_, Int.emod_nonneg _ (by omega), Int.emod_lt_of_pos _ (by omega)⟩
  rw [Int.mul_comm]; exact hc
theorem slot_par (k : Nat) (h : GG a0 a1 a2 a3 a4) {z r : Int} (t : 0 ≤ z ∧ z < a1 - 3 ∧ 0 ≤ r ∧ r < a2) {p : Int} (p0 : -1 ≤ p) (p1 : p < 1000) : Int.tmod (wrap64 (wrap64 ((z + r) % a0 + 1) + p)) a0 = sl a0 z r p := by
  obtain ⟨h1, h2, h3, h4, h5, h6, _⟩ := h
  have e0 := Int.emod_nonneg (z + r) (show a0 ≠ 0 by omega)
  have e1 := Int.emod_lt_of_pos (z + r) (show 0 < a0 by omega)
  rw [w64 (n := (z + r) % a0 + 1) (by omega) (by omega), w64 (by omega) (by omega), tmod_pos (by omega)]; rfl
end
section
variable {a0 a1 a2 a3 a4 : Int}
theorem place_yes (k : Nat) (h : GG a0 a1 a2 a3 a4) {z b : Int} (z0 : 0 ≤ z) (z1 : z < a1 - 3) (b0 : 0 ≤ b) (b1 : b < (a0 - 1) * a2) :
    geom_Place k a0 a1 a2 a3 a4 z b = some (b / (a0 - 1), sl a0 z (b / (a0 - 1)) (b % (a0 - 1)), true) := by
  unfold geom_Place
  have hc := cap_bound h
  have hr := block_row (rows := a2) (by obtain ⟨h1, _⟩ := h; omega) b0 b1
  have h' := h
  obtain ⟨h1, h2, h3, h4, h5, h6, _⟩ := h'
  rw [there_yes k h, decide_eq_true (show 0 ≤ z ∧ z < a1 - 3 ∧ 0 ≤ (0 : Int) ∧ 0 < a2 by omega), cap_yes k h]
  simp only [optb, Bool.not_true, cond_false, within_val]
  rw [w64 (n := (a0 - 1) * a2 - 1) (by omega) (by omega), decide_eq_true (show 0 ≤ b ∧ b ≤ (a0 - 1) * a2 - 1 by omega)]
  simp only [Bool.not_true, geom_Place_j0, geom_Place_k1, geom_Place_j1, cond_false, optb]
  have hq : b / (a0 - 1) ≤ 300 := by omega
  rw [w64 (n := a0 - 1) (by omega) (by omega), decide_eq_false (show ¬ a0 - 1 = 0 by omega)]
  simp only [cond_false]
  rw [tdiv_pos b0, tmod_pos b0, w64 (n := b / (a0 - 1)) (by omega) (by omega), par_yes k h ⟨z0, z1, hr.1, hr.2.1⟩]
  simp only [optb]
  rw [decide_eq_false (show ¬ a0 = 0 by omega), cond_false, slot_par k h ⟨z0, z1, hr.1, hr.2.1⟩ (by omega) (by omega)]
theorem place_no (k : Nat) {z b : Int} (h : ¬ (GG a0 a1 a2 a3 a4 ∧ 0 ≤ z ∧ z < a1 - 3 ∧ 0 ≤ b ∧ b < (a0 - 1) * a2)) :
    geom_Place k a0 a1 a2 a3 a4 z b = some (0, 0, false) := by
  unfold geom_Place
  by_cases g : GG a0 a1 a2 a3 a4
  · have hc := cap_bound g
    have g' := g
    obtain ⟨h1, h2, h3, h4, h5, h6, _⟩ := g'
    rw [there_yes k g, cap_yes k g]
    simp only [optb, within_val]
    rw [w64 (n := (a0 - 1) * a2 - 1) (by omega) (by omega)]
    by_cases t : 0 ≤ z ∧ z < a1 - 3
    · rw [decide_eq_true (show 0 ≤ z ∧ z < a1 - 3 ∧ 0 ≤ (0 : Int) ∧ 0 < a2 by omega), decide_eq_false (show ¬ (0 ≤ b ∧ b ≤ (a0 - 1) * a2 - 1) from fun x => h ⟨g, t.1, t.2, x.1, by omega⟩)]; rfl
    · rw [decide_eq_false (show ¬ (0 ≤ z ∧ z < a1 - 3 ∧ 0 ≤ (0 : Int) ∧ 0 < a2) by omega)]; rfl
  · rw [there_no k g]; rfl
end
/-! ### spots and lengths -/
theorem div_step {n c : Int} (hc : 0 < c) (h0 : 0 ≤ n) : (n % c + 1 < c ∧ (n + 1) / c = n / c ∧ (n + 1) % c = n % c + 1) ∨ (n % c + 1 = c ∧ (n + 1) / c = n / c + 1 ∧ (n + 1) % c = 0) := by
  have h1 := Int.emod_add_mul_ediv n c
  have h2 := Int.emod_nonneg n (show c ≠ 0 by omega)
  have h3 := Int.emod_lt_of_pos n hc
  rcases Int.lt_or_le (n % c + 1) c with hlt | hge
  · refine .inl ⟨hlt, ?_, ?_⟩
    · have e : n + 1 = (n % c + 1) + (n / c) * c := by rw [Int.mul_comm (n / c)]; omega
      rw [e, Int.add_mul_ediv_right _ _ (by omega), Int.ediv_eq_zero_of_lt (by omega) hlt]; omega
    · have e : n + 1 = (n % c + 1) + c * (n / c) := by omega
      conv => lhs; rw [e]
      rw [Int.add_mul_emod_self_left]; exact Int.emod_eq_of_lt (by omega) hlt
  · refine .inr ⟨by omega, ?_, ?_⟩
    · have e : n + 1 = 0 + (n / c + 1) * c := by rw [Int.add_mul, Int.one_mul, Int.mul_comm (n / c)]; omega
      rw [e, Int.add_mul_ediv_right _ _ (by omega)]; simp
    · have e : n + 1 = 0 + c * (n / c + 1) := by rw [Int.mul_add, Int.mul_one]; omega
      rw [e, Int.add_mul_emod_self_left]; simp

abbrev slotOf (d zone row k : Int) : Int := sl d zone row k
/-! ### what lies at a spot -/
def kOf (d p drive : Int) : Int := if p < drive then drive - p - 1 else drive - p - 1 + d
def sOf (d p k : Int) : Int := if p + 1 + k < d then p + 1 + k else p + 1 + k - d
theorem kOf_mod {d p drive : Int} (h0 : 0 ≤ p) (h1 : p < d) (h2 : 0 ≤ drive) (h3 : drive < d) (h4 : drive ≠ p) : (drive - p - 1 + d) % d = kOf d p drive := by
  unfold kOf
  split
  · rw [Int.add_emod_right]; exact Int.emod_eq_of_lt (by omega) (by omega)
  · exact Int.emod_eq_of_lt (by omega) (by omega)
theorem kOf_range {d p drive : Int} (h0 : 0 ≤ p) (h1 : p < d) (h2 : 0 ≤ drive) (h3 : drive < d) (h4 : drive ≠ p) : 0 ≤ kOf d p drive ∧ kOf d p drive ≤ d - 2 := by
  unfold kOf; split <;> omega
theorem sOf_mod {d p k : Int} (h0 : 0 ≤ p) (h1 : p < d) (h2 : 0 ≤ k) (h3 : k ≤ d - 2) : (p + 1 + k) % d = sOf d p k := by
  unfold sOf
  split
  · exact Int.emod_eq_of_lt (by omega) (by omega)
  · rw [show p + 1 + k = (p + 1 + k - d) + d by omega, Int.add_emod_right, show p + 1 + k - d + d - d = p + 1 + k - d by omega]; exact Int.emod_eq_of_lt (by omega) (by omega)
theorem sOf_range {d p k : Int} (h0 : 0 ≤ p) (h1 : p < d) (h2 : 0 ≤ k) (h3 : k ≤ d - 2) : 0 ≤ sOf d p k ∧ sOf d p k < d ∧ sOf d p k ≠ p := by
  unfold sOf; split <;> omega
theorem sOf_kOf {d p drive : Int} (h0 : 0 ≤ p) (h1 : p < d) (h2 : 0 ≤ drive) (h3 : drive < d) (h4 : drive ≠ p) : sOf d p (kOf d p drive) = drive := by
  unfold sOf kOf; split <;> split <;> omega
theorem kOf_sOf {d p k : Int} (h0 : 0 ≤ p) (h1 : p < d) (h2 : 0 ≤ k) (h3 : k ≤ d - 2) : kOf d p (sOf d p k) = k := by
  unfold sOf kOf; split <;> split <;> omega
theorem par_range (d zone row : Int) (hd : 3 ≤ d) : 0 ≤ (zone + row) % d ∧ (zone + row) % d < d := ⟨Int.emod_nonneg _ (by omega), Int.emod_lt_of_pos _ (by omega)⟩

theorem slotOf_eq {d zone row k : Int} (hd : 3 ≤ d) (h2 : 0 ≤ k) (h3 : k ≤ d - 2) : slotOf d zone row k = sOf d ((zone + row) % d) k :=
  sOf_mod (par_range d zone row hd).1 (par_range d zone row hd).2 h2 h3

theorem mul_row {d b row : Int} (hd : 3 ≤ d) (h0 : 0 ≤ row) (h1 : row ≤ b - 1) : 0 ≤ row * (d - 1) ∧ row * (d - 1) ≤ (d - 1) * b - (d - 1) := by
  refine ⟨Int.mul_nonneg h0 (by omega), ?_⟩
  have := Int.mul_le_mul_of_nonneg_right h1 (show 0 ≤ d - 1 by omega)
  rw [Int.sub_mul, Int.one_mul, Int.mul_comm b] at this
  exact this
theorem row_div {d row k : Int} (hd : 3 ≤ d) (h2 : 0 ≤ k) (h3 : k ≤ d - 2) : (row * (d - 1) + k) / (d - 1) = row ∧ (row * (d - 1) + k) % (d - 1) = k := by
  constructor
  · rw [Int.add_comm, Int.add_mul_ediv_right _ _ (by omega), Int.ediv_eq_zero_of_lt h2 (by omega)]; omega
  · rw [Int.add_comm, Int.add_mul_emod_self_right]; exact Int.emod_eq_of_lt h2 (by omega)

/-! ### rows and blocks -/
theorem row_le {d b n : Int} (hd : 3 ≤ d) (h : b ≤ n) : b / (d - 1) ≤ n / (d - 1) ∧ (b / (d - 1) = n / (d - 1) → b % (d - 1) ≤ n % (d - 1) ∧ (b < n → b % (d - 1) < n % (d - 1))) := by
  have h1 := Int.emod_add_mul_ediv b (d - 1)
  have h2 := Int.emod_add_mul_ediv n (d - 1)
  refine ⟨Int.ediv_le_ediv (by omega) h, fun e => ?_⟩
  rw [e] at h1
  exact ⟨by omega, fun _ => by omega⟩
theorem at_slot {d z b : Int} (hd : 3 ≤ d) (b0 : 0 ≤ b) : sl d z (b / (d - 1)) (b % (d - 1)) ≠ (z + b / (d - 1)) % d ∧ kOf d ((z + b / (d - 1)) % d) (sl d z (b / (d - 1)) (b % (d - 1))) = b % (d - 1) := by
  have hp := par_range d z (b / (d - 1)) hd
  have m0 := Int.emod_nonneg b (show d - 1 ≠ 0 by omega)
  have m1 := Int.emod_lt_of_pos b (show 0 < d - 1 by omega)
  have hs : sl d z (b / (d - 1)) (b % (d - 1)) = sOf d ((z + b / (d - 1)) % d) (b % (d - 1)) := slotOf_eq hd m0 (by omega)
  rw [hs]
  exact ⟨(sOf_range hp.1 hp.2 m0 (by omega)).2.2, kOf_sOf hp.1 hp.2 m0 (by omega)⟩
section
variable {a0 a1 a2 a3 a4 : Int}
theorem places_ok : corbeltop_places (9700 + 300) = some true := by kernel_rfl
theorem spread_law {d : Int} (hd : 3 ≤ d) {z a b : Int} (ha0 : 0 ≤ a) (hb0 : 0 ≤ b) (he : sl d z (a / (d - 1)) (a % (d - 1)) = sl d z (b / (d - 1)) (b % (d - 1))) : (a < b ↔ a / (d - 1) < b / (d - 1)) ∧ (a = b ∨ a / (d - 1) ≠ b / (d - 1)) := by
  have hA := at_slot (z := z) hd ha0
  have hB := at_slot (z := z) hd hb0
  have h1 := row_le (b := a) (n := b) hd
  have h2 := row_le (b := b) (n := a) hd
  have same : a / (d - 1) = b / (d - 1) → a = b := fun e => by
    have h3 := hA.2
    rw [he, e] at h3
    have h4 : a % (d - 1) = b % (d - 1) := h3.symm.trans hB.2
    have h5 := Int.emod_add_mul_ediv a (d - 1)
    have h6 := Int.emod_add_mul_ediv b (d - 1)
    rw [h4, e] at h5
    omega
  refine ⟨⟨fun h => ?_, fun h => ?_⟩, ?_⟩
  · have := (h1 (by omega)).1
    by_cases e : a / (d - 1) = b / (d - 1)
    · have := same e; omega
    · omega
  · rcases Int.lt_or_le a b with h3 | h3
    · exact h3
    · have := (h2 h3).1; omega
  · by_cases e : a / (d - 1) = b / (d - 1)
    · exact .inl (same e)
    · exact .inr e
theorem spread_main (x0 x1 x2 at0 at1 at2 : Int) : corbeltop_TopSpread (9700 + 300) x0 x1 x2 at0 at1 at2 = some true := by
  unfold corbeltop_TopSpread
  rw [places_ok, optb_some]
  generalize 9700 + 300 = k
  have e0 : bitop .and .i64 x0 7 = x0 % 8 := and_mask x0 3 (by decide)
  have e1 : bitop .and .i64 x1 7 = x1 % 8 := and_mask x1 3 (by decide)
  have e2 : bitop .and .i64 x2 31 = x2 % 32 := and_mask x2 5 (by decide)
  unfold corbeltop_shape
  rw [e0, e1, e2, w64 (n := 3 + x0 % 8) (by omega) (by omega), w64 (n := 6 + x1 % 8) (by omega) (by omega), w64 (n := 4 + x2 % 32) (by omega) (by omega)]
  simp only [Bool.not_true, cond_false]
  rw [optb_some]
  simp only
  have g : GG (3 + x0 % 8) (6 + x1 % 8) (4 + x2 % 32) 2 4 := by unfold GG; omega
  generalize 3 + x0 % 8 = a0 at *
  generalize 6 + x1 % 8 = a1 at *
  generalize 4 + x2 % 32 = a2 at *
  have hd := g.1
  have hd2 := g.2.1
  have h3 := g.2.2.1
  have h4 := g.2.2.2.1
  have hcb := cap_bound g
  have bound : ∀ x n : Int, 0 < n → n ≤ 10000 → ∃ s, 0 ≤ s ∧ s < n ∧ Int.tmod (wrap64 (Int.tmod x n + n)) n = s := fun x n n0 n1 => by
    have m0 := Int.lt_tmod_of_pos x n0
    have m1 := Int.tmod_lt_of_pos x n0
    refine ⟨(Int.tmod x n + n) % n, Int.emod_nonneg _ (by omega), Int.emod_lt_of_pos _ (by omega), ?_⟩
    rw [w64 (n := Int.tmod x n + n) (by omega) (by omega), tmod_pos (a := Int.tmod x n + n) (by omega)]
  rw [zones_yes k g]
  rw [optb_some, decide_eq_false (show ¬ a1 - 3 = 0 by omega), cond_false, optb_some, optb_some, decide_eq_false (show ¬ a1 - 3 = 0 by omega), cond_false]
  obtain ⟨z, z0, z1, ez⟩ := bound at0 (a1 - 3) (by omega) (by omega)
  obtain ⟨a, b0, b1, ea⟩ := bound at1 ((a0 - 1) * a2) (by omega) (by omega)
  obtain ⟨b, c0, c1, eb⟩ := bound at2 ((a0 - 1) * a2) (by omega) (by omega)
  unfold corbeltop_TopSpread_j0 corbeltop_TopSpread_j1
  rw [ez, cap_yes k g, optb_some, decide_eq_false (show ¬ (a0 - 1) * a2 = 0 by omega), cond_false, cond_false, ea, eb]
  simp only [cond_false]
  rw [place_yes k g z0 z1 b0 b1, optb_some]
  unfold corbeltop_TopSpread_j2
  rw [place_yes k g z0 z1 c0 c1, optb_some]
  have hra := block_row (rows := a2) hd b0 b1
  simp only [cond_true]
  rw [par_yes k g (z := z) (r := a / (a0 - 1)) ⟨z0, z1, hra.1, hra.2.1⟩]
  have hpar : sl a0 z (a / (a0 - 1)) (a % (a0 - 1)) ≠ (z + a / (a0 - 1)) % a0 := (at_slot (z := z) hd b0).1
  rw [optb_some, decide_eq_false hpar]
  by_cases he : sl a0 z (a / (a0 - 1)) (a % (a0 - 1)) = sl a0 z (b / (a0 - 1)) (b % (a0 - 1))
  · have hl := spread_law (z := z) hd b0 c0 he
    rw [decide_eq_true he]
    simp only [Bool.not_true, cond_false]
    have hbe : (decide (a < b) == decide (a / (a0 - 1) < b / (a0 - 1))) = true := by
      by_cases h : a < b
      · rw [decide_eq_true h, decide_eq_true (hl.1.1 h)]; rfl
      · rw [decide_eq_false h, decide_eq_false (fun x => h (hl.1.2 x))]; rfl
    rw [hbe, cond_true]
    by_cases h5 : a = b
    · rw [decide_eq_true h5]; rfl
    · rw [decide_eq_false h5, decide_eq_false (hl.2.resolve_left h5)]; rfl
  · rw [decide_eq_false he]
    simp only [Bool.not_false, cond_true]
    by_cases h5 : a = b
    · rw [decide_eq_true h5]; rfl
    · rw [decide_eq_false h5]
      cases decide (a / (a0 - 1) = b / (a0 - 1)) <;> rfl
end
theorem TopSpread : TopSpreadPure := fun x0 x1 _ _ => ⟨9700 + 300, spread_main _ _ _ _ _ _⟩
end Go.Proofs.YtdmcfpnegbfgiaaDoor.Pure
