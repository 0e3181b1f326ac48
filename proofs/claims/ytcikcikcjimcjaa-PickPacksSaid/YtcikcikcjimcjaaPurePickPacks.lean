/- PickPacks: the pure statement, over numbers and lists alone; no conditions. -/
import Derived.Test.YtcikcikcjimcjaaStatPickPacks
set_option linter.unusedVariables false
set_option linter.unusedSimpArgs false
namespace Go.Proofs.Ytcikcikcjimcjaa.Pure
open Go Go.RowKit Go.Proofs.Ytcikcikcjimcjaa.Ev
/-! ### whole numbers -/
theorem wf_i64 {n : Int} (h : Ty.wf (.int .i64) n) : -9223372036854775808 ≤ n ∧ n ≤ 9223372036854775807 := by
  have h : (Lit.int .i64 n).wf = true := h
  simpa [Lit.wf, IntKind.min, IntKind.max, IntKind.signed, IntKind.bits] using h
theorem w64 {n : Int} (h0 : -9223372036854775808 ≤ n) (h1 : n ≤ 9223372036854775807) : wrap64 n = n := by unfold wrap64; omega
theorem tdiv_pos {a b : Int} (ha : 0 ≤ a) : Int.tdiv a b = a / b := Int.tdiv_eq_ediv_of_nonneg ha
theorem tmod_pos {a b : Int} (ha : 0 ≤ a) : Int.tmod a b = a % b := Int.tmod_eq_emod_of_nonneg ha
theorem bytesOf_append (a b : List Int) : bytesOf a ++ bytesOf b = bytesOf (a ++ b) := by
  apply ByteArray.ext
  simp [bytesOf]
theorem cond_t {α : Type} {c : Bool} {a b : α} (h : c = true) : (bif c then a else b) = a := by rw [h]; rfl
theorem cond_f {α : Type} {c : Bool} {a b : α} (h : c = false) : (bif c then a else b) = b := by rw [h]; rfl
theorem optb_some {α β : Type} (a : α) (f : α → Option β) : optb (some a) f = f a := rfl
theorem and_mask (x : Int) (i : Nat) (hi : i ≤ 62) : bitop .and .i64 x (2 ^ i - 1) = x % 2 ^ i := by
  have h2 : (2 : Nat) ^ i ≤ 2 ^ 62 := Nat.pow_le_pow_right (by decide) hi
  have h62 : (2 : Nat) ^ 62 = 4611686018427387904 := by decide
  have h64 : (2 : Nat) ^ 64 = 18446744073709551616 := by decide
  have hp : 0 < 2 ^ i := Nat.two_pow_pos i
  have hc : ((2 : Int) ^ i - 1) = ((2 ^ i - 1 : Nat) : Int) := by rw [Int.natCast_sub hp]; simp
  have hd : (2 ^ i : Nat) ∣ 2 ^ 64 := Nat.pow_dvd_pow 2 (by omega)
  have hb : IntKind.i64.bits = 64 := rfl
  have key : ((BitVec.ofInt 64 x &&& BitVec.ofInt 64 (2 ^ i - 1)).toNat : Int) = x % 2 ^ i := by
    rw [hc, BitVec.ofInt_natCast, BitVec.toNat_and, BitVec.toNat_ofNat, Nat.mod_eq_of_lt (show 2 ^ i - 1 < 2 ^ 64 by omega), Nat.and_two_pow_sub_one_eq_mod, BitVec.toNat_ofInt,
      Int.natCast_emod, Int.toNat_of_nonneg (Int.emod_nonneg _ (by decide)), Int.emod_emod_of_dvd]
    · simp
    · exact Int.natCast_dvd_natCast.2 hd
  have hlt : ((BitVec.ofInt 64 x &&& BitVec.ofInt 64 (2 ^ i - 1)).toNat : Int) < 4611686018427387904 := by
    rw [key]
    have : x % ((2 ^ i : Nat) : Int) < ((2 ^ i : Nat) : Int) := Int.emod_lt_of_pos _ (by omega)
    have e : ((2 ^ i : Nat) : Int) = (2 : Int) ^ i := by simp
    rw [e] at this
    have : (2 : Int) ^ i ≤ 4611686018427387904 := by rw [← e]; omega
    omega
  show IntKind.i64.wrap ((BitVec.ofInt 64 x &&& BitVec.ofInt 64 (2 ^ i - 1)).toNat : Int) = x % 2 ^ i
  rw [IntKind.wrap_i64]
  omega
/-! ### one thing, so many times -/
theorem u64_wrap (x : Int) : IntKind.u64.wrap x = x % 18446744073709551616 := by simp [IntKind.wrap, IntKind.signed, IntKind.bits]
theorem and_mask_u (x : Int) (i : Nat) (hi : i ≤ 63) : bitop .and .u64 x (2 ^ i - 1) = x % 2 ^ i := by
  have h2 : (2 : Nat) ^ i ≤ 2 ^ 63 := Nat.pow_le_pow_right (by decide) hi
  have h63 : (2 : Nat) ^ 63 = 9223372036854775808 := by decide
  have h64 : (2 : Nat) ^ 64 = 18446744073709551616 := by decide
  have hp : 0 < 2 ^ i := Nat.two_pow_pos i
  have hc : ((2 : Int) ^ i - 1) = ((2 ^ i - 1 : Nat) : Int) := by rw [Int.natCast_sub hp]; simp
  have hd : (2 ^ i : Nat) ∣ 2 ^ 64 := Nat.pow_dvd_pow 2 (by omega)
  have key : ((BitVec.ofInt 64 x &&& BitVec.ofInt 64 (2 ^ i - 1)).toNat : Int) = x % 2 ^ i := by
    rw [hc, BitVec.ofInt_natCast, BitVec.toNat_and, BitVec.toNat_ofNat, Nat.mod_eq_of_lt (show 2 ^ i - 1 < 2 ^ 64 by omega), Nat.and_two_pow_sub_one_eq_mod, BitVec.toNat_ofInt,
      Int.natCast_emod, Int.toNat_of_nonneg (Int.emod_nonneg _ (by decide)), Int.emod_emod_of_dvd]
    · simp
    · exact Int.natCast_dvd_natCast.2 hd
  show IntKind.u64.wrap ((BitVec.ofInt 64 x &&& BitVec.ofInt 64 (2 ^ i - 1)).toNat : Int) = x % 2 ^ i
  rw [u64_wrap, key]
  have : x % ((2 ^ i : Nat) : Int) < ((2 ^ i : Nat) : Int) := Int.emod_lt_of_pos _ (by omega)
  have h0 : 0 ≤ x % ((2 ^ i : Nat) : Int) := Int.emod_nonneg _ (by omega)
  have e : ((2 ^ i : Nat) : Int) = (2 : Int) ^ i := by simp
  rw [e] at this h0
  have : (2 : Int) ^ i ≤ 9223372036854775808 := by rw [← e]; omega
  exact Int.emod_eq_of_lt h0 (by omega)
theorem low32 (x : Int) : bitop .and .u64 x 4294967295 = x % 4294967296 := and_mask_u x 32 (by decide)
theorem shr32 (x : Int) : shrv .u64 x 32 = x / 4294967296 := rfl
theorem mul_one_val (k : Nat) {c : Int} (c0 : 0 ≤ c) (c1 : c < 4294967296) : math_bits_Mul k 1 c = some (0, c) := by
  unfold math_bits_Mul math_bits_Mul64 math_bits_Mul64_j0
  simp only [low32, shr32, u64_wrap, optb_some]
  have e1 : c % 4294967296 = c := Int.emod_eq_of_lt c0 c1
  have e2 : c / 4294967296 = 0 := Int.ediv_eq_zero_of_lt c0 c1
  have e3 : c % 18446744073709551616 = c := Int.emod_eq_of_lt c0 (by omega)
  have f1 : (1 : Int) % 4294967296 = 1 := by decide
  have f2 : (1 : Int) / 4294967296 = 0 := by decide
  simp only [e1, e2, f1, f2, Int.one_mul, Int.zero_mul, Int.mul_zero, e3, Int.add_zero, Int.zero_add]
  simp
theorem rep_add {α : Type} (a b : Nat) (x : α) : List.replicate a x ++ List.replicate b x = List.replicate (a + b) x := List.replicate_append_replicate
theorem repeat_loop {R : Type} (e0 : List Int → Option R) (k : Nat) (c : Nat) (hc : c ≤ 1000000) : ∀ (u j n : Nat), 1 ≤ n → n ≤ c → c - n = u → u < j →
    slices_Repeat_l1 e0 k j n (List.replicate n 6 ++ List.replicate (c - n) 0) = e0 (List.replicate c 6) := by
  intro u
  induction u using Nat.strongRecOn with
  | _ u ih =>
    intro j n n0 n1 hu hj
    obtain ⟨j, rfl⟩ : ∃ u, j = u + 1 := ⟨j - 1, by omega⟩
    have hl : (List.replicate n (6 : Int) ++ List.replicate (c - n) 0).length = c := by rw [List.length_append, List.length_replicate, List.length_replicate]; omega
    rw [slices_Repeat_l1]; unfold slices_Repeat_l1s
    rw [lenI_eq, hl]
    by_cases h : n < c
    · rw [decide_eq_true (show (n : Int) < c by omega), decide_eq_true (show (0 : Int) ≤ n by omega), decide_eq_true (show (n : Int) ≤ c by omega), decide_eq_true (show (0 : Int) + c ≤ c by omega), decide_eq_true (show (0 : Int) + n ≤ c by omega)]
      simp only [Bool.and_self, cond_true]
      have e1 : List.take ((n : Int) - 0).toNat (List.drop (0 : Int).toNat (List.replicate n (6 : Int) ++ List.replicate (c - n) 0)) = List.replicate n 6 := by
        rw [show (0 : Int).toNat = 0 from rfl, List.drop_zero, show ((n : Int) - 0).toNat = n by omega, List.take_append_of_le_length (by rw [List.length_replicate]; omega), List.take_of_length_le (by rw [List.length_replicate]; omega)]
      rw [e1, List.take_replicate, lenI_eq, List.length_replicate, show ((c : Int) - n).toNat = c - n by omega, show ((0 : Int) + n).toNat = n by omega, w64 (by omega) (by omega)]
      have e2 : lay (List.replicate n (6 : Int) ++ List.replicate (c - n) 0) n (List.replicate (min (c - n) n) 6) = List.replicate (n + min (c - n) n) 6 ++ List.replicate (c - (n + min (c - n) n)) 0 := by
        unfold lay
        rw [List.take_append_of_le_length (by rw [List.length_replicate]; omega), List.take_of_length_le (by rw [List.length_replicate]; omega), List.length_replicate, rep_add, List.drop_append, List.length_replicate, List.drop_eq_nil_of_le (by rw [List.length_replicate]; omega), List.nil_append, List.drop_replicate]
        congr 2; omega
      rw [e2]
      have := ih (c - (n + min (c - n) n)) (by omega) j (n + min (c - n) n) (by omega) (by omega) rfl (by omega)
      rw [show ((n + min (c - n) n : Nat) : Int) = (n : Int) + ((min (c - n) n : Nat) : Int) by omega] at this
      exact this
    · have : n = c := by omega
      subst this
      rw [decide_eq_false (by omega), cond_false, Nat.sub_self]
      simp
theorem repeat_val (k : Nat) {c : Int} (c0 : 0 ≤ c) (c1 : c < k) (c2 : c ≤ 1000000) : slices_Repeat k false [6] c = some (false, List.replicate c.toNat 6) := by
  have ew : IntKind.u64.wrap (lenI [(6 : Int)]) = 1 := by rw [lenI_eq, u64_wrap]; rfl
  unfold slices_Repeat
  rw [decide_eq_false (show ¬ c < 0 by omega), cond_false, ew, u64_wrap, Int.emod_eq_of_lt c0 (by omega), mul_one_val k c0 (by omega), optb_some]
  rw [show decide ((0 : Int) < (0, c).1) = false from rfl, cond_false, decide_eq_false (show ¬ (9223372036854775807 : Int) < c by omega)]
  unfold slices_Repeat_j0 slices_Repeat_k0
  rw [cond_false, w64 (n := c) (by omega) (by omega), decide_eq_true c0, decide_eq_true (Int.le_refl c), decide_eq_true (show c ≤ 1099511627776 by omega)]
  simp only [Bool.and_self, cond_true]
  obtain ⟨n, rfl⟩ : ∃ n : Nat, c = n := ⟨c.toNat, by omega⟩
  have hlz : lenI (List.replicate (n : Int).toNat (Ty.zero (.int .i64))) = (n : Int) := by rw [lenI_eq, List.length_replicate]; omega
  rw [hlz, Int.toNat_natCast, show (0 : Int).toNat = 0 from rfl]
  by_cases h : n = 0
  · subst h
    obtain ⟨j, rfl⟩ : ∃ u, k = u + 1 := ⟨k - 1, by omega⟩
    rw [slices_Repeat_l1]; unfold slices_Repeat_l1s
    rw [List.take_zero]
    rfl
  · have e1 : List.take n [(6 : Int)] = [6] := List.take_of_length_le (by rw [List.length_singleton]; omega)
    have e2 : lay (List.replicate n (Ty.zero (.int .i64))) 0 [(6 : Int)] = List.replicate 1 6 ++ List.replicate (n - 1) 0 := by
      unfold lay
      rw [List.take_zero, List.drop_replicate]; rfl
    rw [e1, e2]
    exact repeat_loop (fun l => some (false, l)) k n (by omega) (n - 1) k 1 (Nat.le_refl _) (by omega) rfl (by omega)
theorem split_out (k : Nat) {n : Int} (h : n < 1 ∨ 1048576 < n) : pick_Split k n = some (true, []) := by
  unfold pick_Split pick_Split_j0 pick_Split_k0
  by_cases h1 : n < 1
  · rw [decide_eq_true h1]; rfl
  · rw [decide_eq_false h1, cond_false, decide_eq_true (by omega)]; rfl
def splitL (n : Int) : List Int := List.replicate (n / 6).toNat 6 ++ (if 0 < n % 6 then [n % 6] else [])
theorem split_val (k : Nat) {n : Int} (n0 : 1 ≤ n) (n1 : n ≤ 1048576) (hk : n < k) : ∃ b, pick_Split k n = some (b, splitL n) := by
  unfold pick_Split pick_Split_j0
  rw [decide_eq_false (show ¬ n < 1 by omega), cond_false, decide_eq_false (show ¬ (1048576 : Int) < n by omega)]
  unfold pick_Split_k1 pick_Split_j1 pick_Split_k2
  rw [cond_false, tdiv_pos (by omega), tmod_pos (by omega), w64 (n := n / 6) (by omega) (by omega), repeat_val k (by omega) (by omega) (by omega), optb_some]
  unfold splitL
  by_cases h : 0 < n % 6
  · rw [decide_eq_true h, if_pos h, cond_true]
    simp only
    rw [List.length_replicate, List.length_singleton, decide_eq_true (by omega), cond_true]
    exact ⟨_, rfl⟩
  · rw [decide_eq_false h, if_neg h, cond_false, List.append_nil]
    exact ⟨_, rfl⟩
theorem pack_out (k : Nat) {w t : Int} (h : w < 0 ∨ t < 0 ∨ 1048576 < w ∨ 1048576 < t) : pick_Pack k w t = some 0 := by
  unfold pick_Pack pick_Pack_j0 pick_Pack_k0
  by_cases h1 : w < 0
  · rw [decide_eq_true h1]; rfl
  rw [decide_eq_false h1, cond_false]
  by_cases h2 : t < 0
  · rw [decide_eq_true h2]; rfl
  rw [decide_eq_false h2, cond_false]
  by_cases h3 : 1048576 < w
  · rw [decide_eq_true h3]; rfl
  rw [decide_eq_false h3, cond_false, decide_eq_true (by omega)]; rfl
theorem pack_val (k : Nat) {w t : Int} (w0 : 0 ≤ w) (t0 : 0 ≤ t) (w1 : w ≤ 1048576) (t1 : t ≤ 1048576) : pick_Pack k w t = some (w + (w + t + 5) / 6) := by
  unfold pick_Pack pick_Pack_j0
  rw [decide_eq_false (show ¬ w < 0 by omega), decide_eq_false (show ¬ t < 0 by omega), decide_eq_false (show ¬ 1048576 < w by omega), decide_eq_false (show ¬ 1048576 < t by omega)]
  simp only [cond_false]
  unfold pick_Pack_k1
  rw [w64 (n := w + t) (by omega) (by omega), w64 (n := w + t + 6) (by omega) (by omega), w64 (n := w + t + 6 - 1) (by omega) (by omega), tdiv_pos (by omega), show w + t + 6 - 1 = w + t + 5 by omega, w64 (n := (w + t + 5) / 6) (by omega) (by omega), w64 (by omega) (by omega)]
theorem speaks20 (d : Nat) : corbellaw20_speaks (d + 300) = some true := by kernel_rfl
theorem splitL_len (n : Int) (n0 : 0 ≤ n) : ((splitL n).length : Int) = (n + 5) / 6 := by
  unfold splitL
  rw [List.length_append, List.length_replicate]
  by_cases h : 0 < n % 6
  · rw [if_pos h, List.length_singleton]; omega
  · rw [if_neg h, List.length_nil]; omega
theorem splitL_at (n : Int) (n0 : 0 ≤ n) (i : Nat) (hi : i < (splitL n).length) : (splitL n)[i]? = some (if (i : Int) < n / 6 then 6 else n % 6) ∧ ((i : Int) < n / 6 ∨ ((i : Int) = n / 6 ∧ 0 < n % 6)) := by
  have hl := splitL_len n n0
  unfold splitL
  by_cases h : (i : Int) < n / 6
  · rw [List.getElem?_append_left (by rw [List.length_replicate]; omega), List.getElem?_replicate, if_pos (by omega), if_pos h]
    exact ⟨rfl, .inl h⟩
  · have h2 : 0 < n % 6 := by omega
    have h3 : (i : Int) = n / 6 := by omega
    rw [List.getElem?_append_right (by rw [List.length_replicate]; omega), List.length_replicate, if_pos h2, show i - (n / 6).toNat = 0 by omega, if_neg h]
    exact ⟨rfl, .inr ⟨h3, h2⟩⟩
theorem packs_loop (e0 : Bool → Int → Option Bool) (e1 : Int → Option Bool) (k : Nat) {n : Int} (n0 : 0 ≤ n) (n1 : n ≤ 100000) : ∀ (u j i : Nat) (sum : Int), i ≤ (splitL n).length → (splitL n).length - i = u → u < j → sum = (if (i : Int) ≤ n / 6 then 6 * (i : Int) else n) →
    corbellaw20_PickPacks_l1 e0 e1 k (splitL n) j sum i = e1 n := by
  have hl := splitL_len n n0
  intro u
  induction u with
  | zero =>
    intro j i sum hi hu hj hs
    obtain ⟨j, rfl⟩ : ∃ u, j = u + 1 := ⟨j - 1, by omega⟩
    rw [corbellaw20_PickPacks_l1]; unfold corbellaw20_PickPacks_l1s
    rw [lenI_eq, decide_eq_false (by omega), cond_false]
    congr 1
    split at hs <;> omega
  | succ u ih =>
    intro j i sum hi hu hj hs
    obtain ⟨j, rfl⟩ : ∃ u, j = u + 1 := ⟨j - 1, by omega⟩
    obtain ⟨h1, h2⟩ := splitL_at n n0 i (by omega)
    have hin : (i : Int) ≤ n / 6 := by omega
    rw [if_pos hin] at hs
    generalize hx : (if (i : Int) < n / 6 then (6 : Int) else n % 6) = x at h1
    have hx1 : 1 ≤ x ∧ x ≤ 6 := by split at hx <;> omega
    rw [corbellaw20_PickPacks_l1]; unfold corbellaw20_PickPacks_l1s
    rw [lenI_eq, decide_eq_true (show (i : Int) < (splitL n).length by omega), decide_eq_true (show (0 : Int) ≤ i by omega), Int.toNat_natCast, h1, Bool.and_self, cond_true, optb_some, decide_eq_false (show ¬ x < 1 by omega), cond_false, cond_true, optb_some, decide_eq_false (show ¬ 6 < x by omega), cond_false, cond_true, optb_some, w64 (n := (i : Int) + 1) (by omega) (by omega)]
    have fin : corbellaw20_PickPacks_j2 (corbellaw20_PickPacks_k2 (corbellaw20_PickPacks_l1 e0 e1 k (splitL n) j) e0 e1 k sum) (corbellaw20_PickPacks_k3 (corbellaw20_PickPacks_l1 e0 e1 k (splitL n) j) e0 e1 k i (splitL n) sum) k false = e1 n := by
      unfold corbellaw20_PickPacks_j2 corbellaw20_PickPacks_k3 corbellaw20_PickPacks_j3 corbellaw20_PickPacks_j4
      rw [cond_false, lenI_eq, decide_eq_true (show (i : Int) < (splitL n).length by omega), decide_eq_true (show (0 : Int) ≤ i by omega), Int.toNat_natCast, h1, Bool.and_self, cond_true, optb_some, w64 (n := (i : Int) + 1) (by omega) (by omega), w64 (n := sum + x) (by omega) (by omega)]
      refine ih j (i + 1) (sum + x) (by omega) (by omega) (by omega) ?_
      split at hx <;> split <;> omega
    by_cases c : (i : Int) + 1 < (splitL n).length
    · rw [decide_eq_true c, cond_true]
      have : x = 6 := by
        rw [hl] at c
        split at hx <;> omega
      rw [decide_eq_true this]
      exact fin
    · rw [decide_eq_false c, cond_false]; exact fin
theorem packs_main (w t : Int) : corbellaw20_PickPacks (9700 + 300) w t = some true := by
  unfold corbellaw20_PickPacks
  rw [speaks20, optb_some]
  generalize hk : 9700 + 300 = k
  simp only [Bool.not_true, cond_false]
  have out : (w < 0 ∨ t < 0 ∨ 1048576 < w ∨ 1048576 < t) → corbellaw20_PickPacks_j0 (corbellaw20_PickPacks_k0 k) (corbellaw20_PickPacks_k1 k t w) k w t true = some true := fun h => by
    unfold corbellaw20_PickPacks_j0 corbellaw20_PickPacks_k0
    rw [cond_true, pack_out k h, optb_some, decide_eq_true rfl, cond_true]
    by_cases h1 : 1 ≤ w
    · rw [decide_eq_true h1, cond_true]
      by_cases h2 : w ≤ 1048576
      · rw [decide_eq_true h2]; rfl
      · rw [decide_eq_false h2, cond_false, split_out k (.inr (by omega)), optb_some]; rfl
    · rw [decide_eq_false h1, cond_false, split_out k (.inl (by omega)), optb_some]; rfl
  by_cases h1 : w < 0
  · rw [decide_eq_true h1, cond_true]; exact out (.inl h1)
  rw [decide_eq_false h1, cond_false]
  by_cases h2 : t < 0
  · rw [decide_eq_true h2, cond_true]; exact out (.inr (.inl h2))
  rw [decide_eq_false h2, cond_false]
  by_cases h3 : 1048576 < w
  · rw [decide_eq_true h3, cond_true]; exact out (.inr (.inr (.inl h3)))
  rw [decide_eq_false h3, cond_false]
  by_cases h4 : 1048576 < t
  · rw [decide_eq_true h4]; exact out (.inr (.inr (.inr h4)))
  rw [decide_eq_false h4]
  unfold corbellaw20_PickPacks_j0 corbellaw20_PickPacks_k1
  have e1 : bitop .and .i64 w 4095 = w % 4096 := and_mask w 12 (by decide)
  have e2 : bitop .and .i64 t 4095 = t % 4096 := and_mask t 12 (by decide)
  rw [cond_false, e1, e2, w64 (n := w % 4096 + t % 4096) (by omega) (by omega)]
  have p0 := Int.emod_nonneg w (show (4096 : Int) ≠ 0 by decide)
  have p1 := Int.emod_lt_of_pos w (show (0 : Int) < 4096 by decide)
  have q0 := Int.emod_nonneg t (show (4096 : Int) ≠ 0 by decide)
  have q1 := Int.emod_lt_of_pos t (show (0 : Int) < 4096 by decide)
  generalize w % 4096 = p at *
  generalize t % 4096 = q at *
  have hsp : ∃ b, pick_Split k (p + q) = some (b, splitL (p + q)) := by
    by_cases h : p + q < 1
    · refine ⟨true, ?_⟩
      rw [split_out k (.inl h)]
      have : p + q = 0 := by omega
      rw [this]; rfl
    · exact split_val k (by omega) (by omega) (by omega)
  obtain ⟨b, hb⟩ := hsp
  rw [hb, optb_some]
  simp only
  have hl := splitL_len (p + q) (by omega)
  have hp := packs_loop (fun v _ => some v) (fun sum_2104 =>
        bif decide (sum_2104 = p + q) then
          optb (pick_Pack k p q) fun r_2108 => some (decide (r_2108 = wrap64 (p + lenI (splitL (p + q)))))
        else some false) k (n := p + q) (by omega) (by omega) _ k 0 0 (Nat.zero_le _) rfl (by omega) (by rw [if_pos (by omega)]; rfl)
  rw [show ((0 : Nat) : Int) = 0 from rfl] at hp
  refine hp.trans ?_
  rw [decide_eq_true rfl, cond_true, pack_val k p0 q0 (by omega) (by omega), optb_some, lenI_eq, hl, w64 (by omega) (by omega), decide_eq_true rfl]
theorem PickPacks : PickPacksPure := fun x0 x1 _ _ => ⟨9700 + 300, packs_main _ _⟩
end Go.Proofs.Ytcikcikcjimcjaa.Pure
