/- NumsGets: the pure statement, over numbers and lists alone; no conditions. -/
import Derived.Test.YtncdfikcdchimaaPNumsGetsx4
set_option linter.unusedVariables false
set_option linter.unusedSimpArgs false
namespace Go.Proofs.Ytncdfikcdchimaa.Pure
open Go.RowKit Go.Proofs.Ytncdfikcdchimaa.PNumsGets Go.Proofs.YtncdfikcdchimaaW.PrintWords Go.Proofs.YtncdfikcdchimaaW.PrintLast Go.Proofs.YtncdfikcdchimaaW.PrintMore
/-! ### whole numbers -/
theorem wf_i64 {n : Int} (h : (Lit.int .i64 n).wf = true) : -9223372036854775808 ≤ n ∧ n ≤ 9223372036854775807 := by
  simpa [Lit.wf, IntKind.min, IntKind.max, IntKind.signed, IntKind.bits] using h
theorem w64 {n : Int} (h0 : -9223372036854775808 ≤ n) (h1 : n ≤ 9223372036854775807) : wrap64 n = n := by unfold wrap64; omega
theorem w_succ {i : Nat} (h : i ≤ 1000000000000) : wrap64 ((i : Int) + 1) = ((i + 1 : Nat) : Int) := by rw [w64 (by omega) (by omega)]; omega
theorem tdiv_pos {a b : Int} (ha : 0 ≤ a) : Int.tdiv a b = a / b := Int.tdiv_eq_ediv_of_nonneg ha
theorem tmod_pos {a b : Int} (ha : 0 ≤ a) : Int.tmod a b = a % b := Int.tmod_eq_emod_of_nonneg ha
theorem div_step {n c : Int} (hc : 0 < c) (h0 : 0 ≤ n) : (n % c + 1 < c ∧ (n + 1) / c = n / c ∧ (n + 1) % c = n % c + 1) ∨ (n % c + 1 = c ∧ (n + 1) / c = n / c + 1 ∧ (n + 1) % c = 0) := by
  have h1 := Int.emod_add_mul_ediv n c
  have h2 := Int.emod_nonneg n (show c ≠ 0 by omega)
  have h3 := Int.emod_lt_of_pos n hc
  rcases Int.lt_or_le (n % c + 1) c with hlt | hge
  · refine .inl ⟨hlt, ?_, ?_⟩
    · have e : n + 1 = (n % c + 1) + (n / c) * c := by rw [Int.mul_comm (n / c)]; omega
      rw [e, Int.add_mul_ediv_right _ _ (by omega), Int.ediv_eq_zero_of_lt (by omega) hlt]; omega
    · have e : n + 1 = (n % c + 1) + c * (n / c) := by omega
      conv => lhs; rw [e]
      rw [Int.add_mul_emod_self_left]; exact Int.emod_eq_of_lt (by omega) hlt
  · refine .inr ⟨by omega, ?_, ?_⟩
    · have e : n + 1 = 0 + (n / c + 1) * c := by rw [Int.add_mul, Int.one_mul, Int.mul_comm (n / c)]; omega
      rw [e, Int.add_mul_ediv_right _ _ (by omega)]; simp
    · have e : n + 1 = 0 + c * (n / c + 1) := by rw [Int.mul_add, Int.mul_one]; omega
      rw [e, Int.add_mul_emod_self_left]; simp
/-! ### bits of whole numbers -/
theorem or_nat (a b : Nat) (ha : a < 2 ^ 63) (hb : b < 2 ^ 63) : Go.bits .or .i64 (a : Int) (b : Int) = ((a ||| b : Nat) : Int) :=
  (bits_nat .i64 63 (by decide) (fun n h0 h1 => by rw [IntKind.wrap_i64]; have : (2 : Int) ^ 63 = 9223372036854775808 := by decide
                                                   omega) a b ha hb).2
theorem shl_one (t : Nat) (h : t ≤ 62) : shl .i64 1 (t : Int) = ((2 ^ t : Nat) : Int) := by
  unfold shl
  have hm : min (t : Int).toNat IntKind.i64.bits = t := by
    have : IntKind.i64.bits = 64 := rfl
    rw [this]; omega
  rw [hm, IntKind.wrap_i64, Int.one_mul]
  have h1 : 2 ^ t ≤ 2 ^ 62 := Nat.pow_le_pow_right (by decide) h
  have h2 : ((2 : Int) ^ t) = ((2 ^ t : Nat) : Int) := by simp
  rw [h2]
  have h3 : (2 : Nat) ^ 62 = 4611686018427387904 := by decide
  rw [h3] at h1
  generalize 2 ^ t = q at h1 ⊢
  omega
theorem ones_of (m d : Nat) (h : ∀ t, m.testBit t = true ↔ t < d) : m = 2 ^ d - 1 := by
  apply Nat.eq_of_testBit_eq
  intro t
  rw [Nat.testBit_two_pow_sub_one]
  by_cases ht : t < d
  · rw [(h t).2 ht, decide_eq_true ht]
  · rw [decide_eq_false ht]
    cases hb : m.testBit t with
    | false => rfl
    | true => exact absurd ((h t).1 hb) ht
theorem lt_of_bits (m d : Nat) (h : ∀ t, m.testBit t = true → t < d) : m < 2 ^ d := by
  apply Nat.lt_pow_two_of_testBit
  intro t ht
  cases hb : m.testBit t with
  | false => rfl
  | true => have := h t hb; omega
theorem or_bit (m t u : Nat) : (m ||| 2 ^ t).testBit u = true ↔ m.testBit u = true ∨ t = u := by
  rw [Nat.testBit_or, Bool.or_eq_true, Nat.testBit_two_pow, decide_eq_true_iff]
theorem speaks01 (k : Nat) (hk : 300 ≤ k) : corbellaw01_speaks.f k = some true := by
  obtain ⟨d, rfl⟩ : ∃ d, k = 300 + d := ⟨k - 300, by omega⟩
  clear hk
  induction d with
  | zero => decide +kernel
  | succ d ih => exact corbellaw01_speaks.mono (300 + d) _ ih
theorem or_byte (x b : Nat) (hx : x < 2 ^ 48) (hb : b < 256) : Go.bits .or .i64 ((x * 256 : Nat) : Int) (b : Int) = ((x * 256 + b : Nat) : Int) := by
  rw [or_nat _ _ (by omega) (by omega)]
  congr 1
  have := Nat.two_pow_add_eq_or_of_lt (i := 8) (show b < 2 ^ 8 by omega) x
  rw [Nat.mul_comm x 256]; exact this.symm
theorem gets_loop (s : ByteArray) (hs : s.size ≤ 7) (m : Nat) : ∀ (k i x : Nat), s.size - i = m → i ≤ s.size → m < k → x < 2 ^ (8 * i) →
    ∃ v, nums_Get.l0 k s x (s.size : Int) i = some (v, true) ∧ corbelref01_Get.l0 k s x i = some (v, true) := by
  induction m with
  | zero =>
    intro k i x hm hi hk hx
    obtain ⟨k, rfl⟩ : ∃ q, k = q + 1 := ⟨k - 1, by omega⟩
    refine ⟨x, ?_, ?_⟩
    · simp only [nums_Get.l0]; rw [if_neg (by omega)]
    · simp only [corbelref01_Get.l0]; rw [if_neg (by omega)]
  | succ m ih =>
    intro k i x hm hi hk hx
    obtain ⟨k, rfl⟩ : ∃ q, k = q + 1 := ⟨k - 1, by omega⟩
    have hb := bt_range s (i : Int)
    obtain ⟨b, hbe⟩ := Int.eq_ofNat_of_zero_le hb.1
    have hx48 : x < 2 ^ 48 := Nat.lt_of_lt_of_le hx (Nat.pow_le_pow_right (by decide) (by omega))
    have h48 : (2 : Nat) ^ 48 = 281474976710656 := by decide
    have hx' : x * 256 + b < 2 ^ (8 * (i + 1)) := by
      rw [show 8 * (i + 1) = 8 * i + 8 by omega, Nat.pow_add]
      have : (2 : Nat) ^ 8 = 256 := by decide
      rw [this]; omega
    obtain ⟨v, h1, h2⟩ := ih k (i + 1) (x * 256 + b) (by omega) (by omega) (by omega) hx'
    refine ⟨v, ?_, ?_⟩
    · simp only [nums_Get.l0]
      rw [if_pos (by omega), if_pos (by omega), if_pos (by omega), hbe, w64 (n := (b : Int)) (by omega) (by omega), w64 (n := (x : Int) * 256) (by omega) (by omega), show ((x : Int) * 256) = ((x * 256 : Nat) : Int) by omega, or_byte x b hx48 (by omega), w_succ (by omega)]
      exact h1
    · simp only [corbelref01_Get.l0]
      rw [if_pos (by omega), if_pos (by omega), hbe, w64 (n := (b : Int)) (by omega) (by omega), w64 (n := 256 * (x : Int)) (by omega) (by omega), w64 (n := 256 * (x : Int) + b) (by omega) (by omega), show (256 * (x : Int) + b) = ((x * 256 + b : Nat) : Int) by omega, w_succ (by omega)]
      exact h2
theorem NumsGets : corbellaw01_NumsGets.Pure := by
  intro s hs
  obtain ⟨K, hK⟩ : ∃ K : Nat, 1000 ≤ K := ⟨_, Nat.le_refl _⟩
  refine ⟨K, ?_⟩
  unfold corbellaw01_NumsGets.f
  rw [speaks01 K (by omega)]
  simp only [Option.bind_some, if_true]
  obtain ⟨k, rfl⟩ : ∃ q, K = q + 1 := ⟨K - 1, by omega⟩
  unfold nums_Get.f corbelref01_Get.f
  simp only [nums_Get.j0, corbelref01_Get.j0]
  by_cases h1 : (s.size : Int) < 1
  · rw [if_pos h1, if_pos h1]; simp
  · by_cases h2 : (s.size : Int) > 7
    · rw [if_neg h1, if_neg h1, decide_eq_true h2]; simp
    · obtain ⟨v, e1, e2⟩ := gets_loop s (by omega) s.size k 0 0 (by omega) (by omega) (by omega) (by decide)
      rw [if_neg h1, if_neg h1, decide_eq_false h2, if_neg (by decide), if_neg (by decide)]
      rw [show ((0 : Nat) : Int) = 0 from rfl] at e1 e2
      rw [e1, e2]; simp
end Go.Proofs.Ytncdfikcdchimaa.Pure
