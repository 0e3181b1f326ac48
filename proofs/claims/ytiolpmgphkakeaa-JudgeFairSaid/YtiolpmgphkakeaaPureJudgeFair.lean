/- JudgeFair: the pure statement, over numbers and lists alone; no conditions. -/
import Derived.Test.YtiolpmgphkakeaaStatJudgeFair
set_option linter.unusedVariables false
set_option linter.unusedSimpArgs false
namespace Go.Proofs.Ytiolpmgphkakeaa.Pure
open Go Go.RowKit Go.Proofs.Ytiolpmgphkakeaa.Ev
/-! ### whole numbers -/
theorem wf_i64 {n : Int} (h : Ty.wf (.int .i64) n) : -9223372036854775808 ≤ n ∧ n ≤ 9223372036854775807 := by
  have h : (Lit.int .i64 n).wf = true := h
  simpa [Lit.wf, IntKind.min, IntKind.max, IntKind.signed, IntKind.bits] using h
theorem w64 {n : Int} (h0 : -9223372036854775808 ≤ n) (h1 : n ≤ 9223372036854775807) : wrap64 n = n := by unfold wrap64; omega
theorem tdiv_pos {a b : Int} (ha : 0 ≤ a) : Int.tdiv a b = a / b := Int.tdiv_eq_ediv_of_nonneg ha
theorem tmod_pos {a b : Int} (ha : 0 ≤ a) : Int.tmod a b = a % b := Int.tmod_eq_emod_of_nonneg ha
theorem bytesOf_append (a b : List Int) : bytesOf a ++ bytesOf b = bytesOf (a ++ b) := by
  apply ByteArray.ext
  simp [bytesOf]
theorem cond_t {α : Type} {c : Bool} {a b : α} (h : c = true) : (bif c then a else b) = a := by rw [h]; rfl
theorem cond_f {α : Type} {c : Bool} {a b : α} (h : c = false) : (bif c then a else b) = b := by rw [h]; rfl
theorem optb_some {α β : Type} (a : α) (f : α → Option β) : optb (some a) f = f a := rfl
theorem and_mask (x : Int) (i : Nat) (hi : i ≤ 62) : bitop .and .i64 x (2 ^ i - 1) = x % 2 ^ i := by
  have h2 : (2 : Nat) ^ i ≤ 2 ^ 62 := Nat.pow_le_pow_right (by decide) hi
  have h62 : (2 : Nat) ^ 62 = 4611686018427387904 := by decide
  have h64 : (2 : Nat) ^ 64 = 18446744073709551616 := by decide
  have hp : 0 < 2 ^ i := Nat.two_pow_pos i
  have hc : ((2 : Int) ^ i - 1) = ((2 ^ i - 1 : Nat) : Int) := by rw [Int.natCast_sub hp]; simp
  have hd : (2 ^ i : Nat) ∣ 2 ^ 64 := Nat.pow_dvd_pow 2 (by omega)
  have hb : IntKind.i64.bits = 64 := rfl
  have key : ((BitVec.ofInt 64 x &&& BitVec.ofInt 64 (2 ^ i - 1)).toNat : Int) = x % 2 ^ i := by
    rw [hc, BitVec.ofInt_natCast, BitVec.toNat_and, BitVec.toNat_ofNat, Nat.mod_eq_of_lt (show 2 ^ i - 1 < 2 ^ 64 by omega), Nat.and_two_pow_sub_one_eq_mod, BitVec.toNat_ofInt,
      Int.natCast_emod, Int.toNat_of_nonneg (Int.emod_nonneg _ (by decide)), Int.emod_emod_of_dvd]
    · simp
    · exact Int.natCast_dvd_natCast.2 hd
  have hlt : ((BitVec.ofInt 64 x &&& BitVec.ofInt 64 (2 ^ i - 1)).toNat : Int) < 4611686018427387904 := by
    rw [key]
    have : x % ((2 ^ i : Nat) : Int) < ((2 ^ i : Nat) : Int) := Int.emod_lt_of_pos _ (by omega)
    have e : ((2 ^ i : Nat) : Int) = (2 : Int) ^ i := by simp
    rw [e] at this
    have : (2 : Int) ^ i ≤ 4611686018427387904 := by rw [← e]; omega
    omega
  show IntKind.i64.wrap ((BitVec.ofInt 64 x &&& BitVec.ofInt 64 (2 ^ i - 1)).toNat : Int) = x % 2 ^ i
  rw [IntKind.wrap_i64]
  omega
theorem mod_in2 {x c : Int} (hx : -9223372036854775808 ≤ x ∧ x ≤ 9223372036854775807) (c0 : 0 < c) (c1 : c ≤ 1000000) : 0 ≤ Int.tmod (wrap64 (Int.tmod x c + c)) c ∧ Int.tmod (wrap64 (Int.tmod x c + c)) c < c := by
  have m0 := Int.lt_tmod_of_pos x c0
  have m1 := Int.tmod_lt_of_pos x c0
  rw [w64 (n := Int.tmod x c + c) (by omega) (by omega), tmod_pos (by omega)]
  exact ⟨Int.emod_nonneg _ (by omega), Int.emod_lt_of_pos _ c0⟩
/-! ### bytes, the greatest first -/
def be (n : Int) : Nat → List Int
  | 0 => []
  | w + 1 => (n / 256 ^ w % 256) :: be n w
theorem be_length (n : Int) : ∀ w, (be n w).length = w
  | 0 => rfl
  | w + 1 => by simp [be, be_length n w]
theorem u8_wrap (x : Int) : IntKind.u8.wrap x = x % 256 := by simp [IntKind.wrap, IntKind.signed, IntKind.bits]
theorem be_range (n : Int) : ∀ w, ∀ x ∈ be n w, 0 ≤ x ∧ x < 256
  | 0, x, h => by simp [be] at h
  | w + 1, x, h => by
    rcases List.mem_cons.1 h with rfl | h
    · omega
    · exact be_range n w x h
def u8s (l : List Int) : List UInt8 := l.map fun n => UInt8.ofNat n.toNat
theorem bytesOf_data (l : List Int) : (bytesOf l).data = (u8s l).toArray := rfl
theorem toList_data (s : ByteArray) : s.toList = s.data.toList := by
  have loop : ∀ (i : Nat) (r : List UInt8), ByteArray.toList.loop s i r = r.reverse ++ s.data.toList.drop i := by
    intro i r
    fun_induction ByteArray.toList.loop s i r with
    | case1 i r h ih =>
      rw [ih, List.reverse_cons, List.append_assoc]
      congr 1
      have hi : i < s.data.toList.length := by simpa using h
      rw [List.drop_eq_getElem_cons hi]
      simp [ByteArray.get!, h]
    | case2 i r h =>
      have : s.data.toList.length ≤ i := by simpa using h
      rw [List.drop_eq_nil_of_le this, List.append_nil]
  unfold ByteArray.toList
  rw [loop]; simp
theorem bytesOf_toList (l : List Int) : (bytesOf l).toList = u8s l := by rw [toList_data, bytesOf_data]
theorem bytesOf_size (l : List Int) : (bytesOf l).size = l.length := by
  show (bytesOf l).data.size = _
  rw [bytesOf_data]; simp [u8s]
theorem bt_of (l : List Int) (i : Nat) {x : Int} (h : l[i]? = some x) (h0 : 0 ≤ x) (h1 : x < 256) : bt (bytesOf l) (i : Int) = x := by
  have hi : i < l.length := (List.getElem?_eq_some_iff.1 h).1
  have hx : l[i] = x := (List.getElem?_eq_some_iff.1 h).2
  unfold bt
  have hs : (i : Int).toNat < (bytesOf l).size := by rw [bytesOf_size]; simpa using hi
  rw [dif_pos hs]
  have e : (bytesOf l)[(i : Int).toNat]'hs = UInt8.ofNat x.toNat := by
    show (bytesOf l).data[(i : Int).toNat]'hs = _
    simp [bytesOf_data, u8s, hx]
  rw [e]
  simp
  omega
theorem u8_nat {a : Int} (h0 : 0 ≤ a) (h1 : a < 256) : (UInt8.ofNat a.toNat).toNat = a.toNat := by
  rw [UInt8.toNat_ofNat']; omega
theorem u8_lt {a b : Int} (a0 : 0 ≤ a) (a1 : a < 256) (b0 : 0 ≤ b) (b1 : b < 256) : (decide (UInt8.ofNat a.toNat < UInt8.ofNat b.toNat)) = decide (a < b) := by
  rw [decide_eq_decide, UInt8.lt_iff_toNat_lt, u8_nat a0 a1, u8_nat b0 b1]; omega
theorem u8_beq {a b : Int} (a0 : 0 ≤ a) (a1 : a < 256) (b0 : 0 ≤ b) (b1 : b < 256) : (UInt8.ofNat a.toNat == UInt8.ofNat b.toNat) = decide (a = b) := by
  rw [Bool.eq_iff_iff, beq_iff_eq, decide_eq_true_iff, ← UInt8.toNat_inj, u8_nat a0 a1, u8_nat b0 b1]; omega
theorem mod_step (a : Int) (w : Nat) : a % 256 ^ (w + 1) = (a / 256 ^ w % 256) * 256 ^ w + a % 256 ^ w := by
  have hp : (0 : Int) < 256 ^ w := Int.pow_pos (by decide)
  rw [Int.pow_succ]
  have h1 := Int.emod_add_mul_ediv a (256 ^ w)
  have h2 := Int.emod_add_mul_ediv (a / 256 ^ w) 256
  have h3 := Int.emod_add_mul_ediv a (256 ^ w * 256)
  have h4 : a / (256 ^ w * 256) = a / 256 ^ w / 256 := (Int.ediv_ediv_of_nonneg (Int.le_of_lt hp)).symm
  rw [h4] at h3
  generalize a / 256 ^ w = q at *
  generalize (256 : Int) ^ w = p at *
  have h5 : p * 256 * (q / 256) = p * (256 * (q / 256)) := Int.mul_assoc _ _ _
  have h6 : p * q = p * (q % 256) + p * (256 * (q / 256)) := by rw [← Int.mul_add, h2]
  rw [Int.mul_comm (q % 256) p]
  omega
theorem less_be (n m : Int) : ∀ w, Op.bytesLess (u8s (be n w)) (u8s (be m w)) = decide (n % 256 ^ w < m % 256 ^ w)
  | 0 => by simp [be, u8s, Op.bytesLess, Int.emod_one]
  | w + 1 => by
    have ih := less_be n m w
    have hp : (0 : Int) < 256 ^ w := Int.pow_pos (by decide)
    have na := Int.emod_nonneg (n / 256 ^ w) (show (256 : Int) ≠ 0 by decide)
    have nb := Int.emod_lt_of_pos (n / 256 ^ w) (show (0 : Int) < 256 by decide)
    have ma := Int.emod_nonneg (m / 256 ^ w) (show (256 : Int) ≠ 0 by decide)
    have mb := Int.emod_lt_of_pos (m / 256 ^ w) (show (0 : Int) < 256 by decide)
    have r1 := Int.emod_nonneg n (Int.ne_of_gt hp)
    have r2 := Int.emod_lt_of_pos n hp
    have r3 := Int.emod_nonneg m (Int.ne_of_gt hp)
    have r4 := Int.emod_lt_of_pos m hp
    rw [mod_step n, mod_step m]
    simp only [be, u8s, List.map_cons, Op.bytesLess]
    rw [show List.map (fun n => UInt8.ofNat n.toNat) (be n w) = u8s (be n w) from rfl, show List.map (fun n => UInt8.ofNat n.toNat) (be m w) = u8s (be m w) from rfl, ih]
    generalize n / 256 ^ w % 256 = a at *
    generalize m / 256 ^ w % 256 = b at *
    generalize n % 256 ^ w = r at *
    generalize m % 256 ^ w = q at *
    generalize (256 : Int) ^ w = p at *
    rw [u8_beq na nb ma mb]
    show (decide (UInt8.ofNat a.toNat < UInt8.ofNat b.toNat) || _) = _
    rw [u8_lt na nb ma mb]
    rcases Int.lt_trichotomy a b with h | h | h
    · have h7 : (a + 1) * p ≤ b * p := Int.mul_le_mul_of_nonneg_right (by omega) (by omega)
      rw [Int.add_mul] at h7
      rw [decide_eq_true h, decide_eq_true (show a * p + r < b * p + q by omega)]; rfl
    · subst h
      rw [decide_eq_false (Int.lt_irrefl a), decide_eq_true rfl]
      simp
    · have h7 : (b + 1) * p ≤ a * p := Int.mul_le_mul_of_nonneg_right (by omega) (by omega)
      rw [Int.add_mul] at h7
      rw [decide_eq_false (show ¬ a < b by omega), decide_eq_false (show ¬ a = b by omega), decide_eq_false (show ¬ a * p + r < b * p + q by omega)]; rfl
/-! ### a number out of bytes -/
def vl : Int → List Int → Int
  | v, [] => v
  | v, b :: r => vl (v * 256 + b) r
theorem vl_be (n : Int) : ∀ (w : Nat) (v : Int), vl v (be n w) = v * 256 ^ w + n % 256 ^ w
  | 0, v => by simp [be, vl, Int.emod_one]
  | w + 1, v => by
    simp only [be, vl]
    rw [vl_be n w, mod_step n w, Int.pow_succ, Int.add_mul, Int.mul_assoc, Int.mul_comm 256 (256 ^ w)]
    omega
/-! ### one thing, so many times -/
theorem u64_wrap (x : Int) : IntKind.u64.wrap x = x % 18446744073709551616 := by simp [IntKind.wrap, IntKind.signed, IntKind.bits]
theorem and_mask_u (x : Int) (i : Nat) (hi : i ≤ 63) : bitop .and .u64 x (2 ^ i - 1) = x % 2 ^ i := by
  have h2 : (2 : Nat) ^ i ≤ 2 ^ 63 := Nat.pow_le_pow_right (by decide) hi
  have h63 : (2 : Nat) ^ 63 = 9223372036854775808 := by decide
  have h64 : (2 : Nat) ^ 64 = 18446744073709551616 := by decide
  have hp : 0 < 2 ^ i := Nat.two_pow_pos i
  have hc : ((2 : Int) ^ i - 1) = ((2 ^ i - 1 : Nat) : Int) := by rw [Int.natCast_sub hp]; simp
  have hd : (2 ^ i : Nat) ∣ 2 ^ 64 := Nat.pow_dvd_pow 2 (by omega)
  have key : ((BitVec.ofInt 64 x &&& BitVec.ofInt 64 (2 ^ i - 1)).toNat : Int) = x % 2 ^ i := by
    rw [hc, BitVec.ofInt_natCast, BitVec.toNat_and, BitVec.toNat_ofNat, Nat.mod_eq_of_lt (show 2 ^ i - 1 < 2 ^ 64 by omega), Nat.and_two_pow_sub_one_eq_mod, BitVec.toNat_ofInt,
      Int.natCast_emod, Int.toNat_of_nonneg (Int.emod_nonneg _ (by decide)), Int.emod_emod_of_dvd]
    · simp
    · exact Int.natCast_dvd_natCast.2 hd
  show IntKind.u64.wrap ((BitVec.ofInt 64 x &&& BitVec.ofInt 64 (2 ^ i - 1)).toNat : Int) = x % 2 ^ i
  rw [u64_wrap, key]
  have : x % ((2 ^ i : Nat) : Int) < ((2 ^ i : Nat) : Int) := Int.emod_lt_of_pos _ (by omega)
  have h0 : 0 ≤ x % ((2 ^ i : Nat) : Int) := Int.emod_nonneg _ (by omega)
  have e : ((2 ^ i : Nat) : Int) = (2 : Int) ^ i := by simp
  rw [e] at this h0
  have : (2 : Int) ^ i ≤ 9223372036854775808 := by rw [← e]; omega
  exact Int.emod_eq_of_lt h0 (by omega)
theorem low32 (x : Int) : bitop .and .u64 x 4294967295 = x % 4294967296 := and_mask_u x 32 (by decide)
theorem shr32 (x : Int) : shrv .u64 x 32 = x / 4294967296 := rfl
theorem mul_one_val (k : Nat) {c : Int} (c0 : 0 ≤ c) (c1 : c < 4294967296) : math_bits_Mul k 1 c = some (0, c) := by
  unfold math_bits_Mul math_bits_Mul64 math_bits_Mul64_j0
  simp only [low32, shr32, u64_wrap, optb_some]
  have e1 : c % 4294967296 = c := Int.emod_eq_of_lt c0 c1
  have e2 : c / 4294967296 = 0 := Int.ediv_eq_zero_of_lt c0 c1
  have e3 : c % 18446744073709551616 = c := Int.emod_eq_of_lt c0 (by omega)
  have f1 : (1 : Int) % 4294967296 = 1 := by decide
  have f2 : (1 : Int) / 4294967296 = 0 := by decide
  simp only [e1, e2, f1, f2, Int.one_mul, Int.zero_mul, Int.mul_zero, e3, Int.add_zero, Int.zero_add]
  simp
theorem rep_add {α : Type} (a b : Nat) (x : α) : List.replicate a x ++ List.replicate b x = List.replicate (a + b) x := List.replicate_append_replicate
theorem repeat_loop {R : Type} (x : ByteArray) (e0 : List ByteArray → Option R) (k : Nat) (c : Nat) (hc : c ≤ 1000000) : ∀ (u j n : Nat), 1 ≤ n → n ≤ c → c - n = u → u < j →
    slices_Repeat_l1 e0 k j n (List.replicate n x ++ List.replicate (c - n) (Ty.zero .str : ByteArray)) = e0 (List.replicate c x) := by
  intro u
  induction u using Nat.strongRecOn with
  | _ u ih =>
    intro j n n0 n1 hu hj
    obtain ⟨j, rfl⟩ : ∃ u, j = u + 1 := ⟨j - 1, by omega⟩
    have hl : (List.replicate n x ++ List.replicate (c - n) (Ty.zero .str : ByteArray)).length = c := by rw [List.length_append, List.length_replicate, List.length_replicate]; omega
    rw [slices_Repeat_l1]; unfold slices_Repeat_l1s
    rw [lenI_eq, hl]
    by_cases h : n < c
    · rw [decide_eq_true (show (n : Int) < c by omega), decide_eq_true (show (0 : Int) ≤ n by omega), decide_eq_true (show (n : Int) ≤ c by omega), decide_eq_true (show (0 : Int) + c ≤ c by omega), decide_eq_true (show (0 : Int) + n ≤ c by omega)]
      simp only [Bool.and_self, cond_true]
      have e1 : List.take ((n : Int) - 0).toNat (List.drop (0 : Int).toNat (List.replicate n x ++ List.replicate (c - n) (Ty.zero .str : ByteArray))) = List.replicate n x := by
        rw [show (0 : Int).toNat = 0 from rfl, List.drop_zero, show ((n : Int) - 0).toNat = n by omega, List.take_append_of_le_length (by rw [List.length_replicate]; omega), List.take_of_length_le (by rw [List.length_replicate]; omega)]
      rw [e1, List.take_replicate, lenI_eq, List.length_replicate, show ((c : Int) - n).toNat = c - n by omega, show ((0 : Int) + n).toNat = n by omega, w64 (by omega) (by omega)]
      have e2 : lay (List.replicate n x ++ List.replicate (c - n) (Ty.zero .str : ByteArray)) n (List.replicate (min (c - n) n) x) = List.replicate (n + min (c - n) n) x ++ List.replicate (c - (n + min (c - n) n)) (Ty.zero .str : ByteArray) := by
        unfold lay
        rw [List.take_append_of_le_length (by rw [List.length_replicate]; omega), List.take_of_length_le (by rw [List.length_replicate]; omega), List.length_replicate, rep_add, List.drop_append, List.length_replicate, List.drop_eq_nil_of_le (by rw [List.length_replicate]; omega), List.nil_append, List.drop_replicate]
        congr 2; omega
      rw [e2]
      have := ih (c - (n + min (c - n) n)) (by omega) j (n + min (c - n) n) (by omega) (by omega) rfl (by omega)
      rw [show ((n + min (c - n) n : Nat) : Int) = (n : Int) + ((min (c - n) n : Nat) : Int) by omega] at this
      exact this
    · have : n = c := by omega
      subst this
      rw [decide_eq_false (by omega), cond_false, Nat.sub_self]
      simp
theorem repeat_val (x : ByteArray) (k : Nat) {c : Int} (c0 : 0 ≤ c) (c1 : c < k) (c2 : c ≤ 1000000) : slices_Repeat k false [x] c = some (false, List.replicate c.toNat x) := by
  have ew : IntKind.u64.wrap (lenI [x]) = 1 := by rw [lenI_eq, u64_wrap]; rfl
  unfold slices_Repeat
  rw [decide_eq_false (show ¬ c < 0 by omega), cond_false, ew, u64_wrap, Int.emod_eq_of_lt c0 (by omega), mul_one_val k c0 (by omega), optb_some]
  rw [show decide ((0 : Int) < (0, c).1) = false from rfl, cond_false, decide_eq_false (show ¬ (9223372036854775807 : Int) < c by omega)]
  unfold slices_Repeat_j0 slices_Repeat_k0
  rw [cond_false, w64 (n := c) (by omega) (by omega), decide_eq_true c0, decide_eq_true (Int.le_refl c), decide_eq_true (show c ≤ 1099511627776 by omega)]
  simp only [Bool.and_self, cond_true]
  obtain ⟨n, rfl⟩ : ∃ n : Nat, c = n := ⟨c.toNat, by omega⟩
  have hlz : lenI (List.replicate (n : Int).toNat (Ty.zero .str)) = (n : Int) := by rw [lenI_eq, List.length_replicate]; omega
  rw [hlz, Int.toNat_natCast, show (0 : Int).toNat = 0 from rfl]
  by_cases h : n = 0
  · subst h
    obtain ⟨j, rfl⟩ : ∃ u, k = u + 1 := ⟨k - 1, by omega⟩
    rw [slices_Repeat_l1]; unfold slices_Repeat_l1s
    rw [List.take_zero]
    rfl
  · have e1 : List.take n [x] = [x] := List.take_of_length_le (by rw [List.length_singleton]; omega)
    have e2 : lay (List.replicate n (Ty.zero .str)) 0 [x] = List.replicate 1 x ++ List.replicate (n - 1) (Ty.zero .str : ByteArray) := by
      unfold lay
      rw [List.take_zero, List.drop_replicate]; rfl
    rw [e1, e2]
    exact repeat_loop x (fun l => some (false, l)) k n (by omega) (n - 1) k 1 (Nat.le_refl _) (by omega) rfl (by omega)
/-! ### texts, block by block -/
theorem ba_ext {a b : ByteArray} (h : a.data.toList = b.data.toList) : a = b := ByteArray.ext (Array.toList_inj.1 h)
theorem size_data (s : ByteArray) : s.data.toList.length = s.size := rfl
theorem xdata (s : ByteArray) (a b : Nat) : (s.extract a b).data.toList = (s.data.toList.drop a).take (b - a) := by
  rw [ByteArray.data_extract, Array.toList_extract, List.extract_eq_take_drop]
def allB (L : List ByteArray) : ByteArray := ⟨(L.map (·.data.toList)).flatten.toArray⟩
theorem join_flat (xs : List (List UInt8)) : Lib.join xs [] = xs.flatten := by
  cases xs with
  | nil => rfl
  | cons x r =>
    rw [Lib.join_cons]
    unfold Lib.joinTail
    simp
def Blk (S : Nat) (L : List ByteArray) : Prop := L.length = S ∧ ∀ b ∈ L, b.size = 64
theorem flat_len : ∀ (L : List ByteArray), (∀ b ∈ L, b.size = 64) → (L.map (·.data.toList)).flatten.length = 64 * L.length
  | [], _ => rfl
  | b :: L, h => by
    have h1 := h b (List.mem_cons_self ..)
    have h2 := flat_len L (fun q hq => h q (List.mem_cons_of_mem _ hq))
    rw [List.map_cons, List.flatten_cons, List.length_append, h2, size_data, h1, List.length_cons]
    omega
theorem allB_data (L : List ByteArray) : (allB L).data.toList = (L.map (·.data.toList)).flatten := by unfold allB; rw [List.toList_toArray]
theorem allB_size {S : Nat} {L : List ByteArray} (h : Blk S L) : (allB L).size = 64 * S := by
  rw [← size_data, allB_data, flat_len L h.2, h.1]
theorem flat_at : ∀ (L : List ByteArray), (∀ b ∈ L, b.size = 64) → ∀ (q : Nat) (b : ByteArray), L[q]? = some b → ((L.map (·.data.toList)).flatten.drop (64 * q)).take 64 = b.data.toList
  | [], _, _, _, h => by simp at h
  | c :: L, h, 0, b, e => by
    have h1 := h c (List.mem_cons_self ..)
    rw [List.getElem?_cons_zero, Option.some.injEq] at e
    subst e
    rw [Nat.mul_zero, List.drop_zero, List.map_cons, List.flatten_cons]
    exact List.take_left' (by rw [size_data, h1])
  | c :: L, h, q + 1, b, e => by
    have h1 := h c (List.mem_cons_self ..)
    rw [List.getElem?_cons_succ] at e
    rw [List.map_cons, List.flatten_cons, show 64 * (q + 1) = c.data.toList.length + 64 * q by rw [size_data, h1]; omega, List.drop_append]
    rw [List.drop_eq_nil_of_le (by omega), List.nil_append, Nat.add_sub_cancel_left]
    exact flat_at L (fun q hq => h q (List.mem_cons_of_mem _ hq)) q b e
theorem flat_of : ∀ (L : List ByteArray) (l : List UInt8), l.length = 64 * L.length → (∀ q, q < L.length → ∃ b, L[q]? = some b ∧ b.data.toList = (l.drop (64 * q)).take 64) → l = (L.map (·.data.toList)).flatten
  | [], l, h, _ => List.eq_nil_of_length_eq_zero (by simpa using h)
  | c :: L, l, h, e => by
    rw [List.length_cons] at h
    obtain ⟨b, hb, h0⟩ := e 0 (by simp)
    rw [List.getElem?_cons_zero, Option.some.injEq] at hb
    subst hb
    have := flat_of L (l.drop 64) (by rw [List.length_drop]; omega) (fun q hq => by
      obtain ⟨b, hb, h1⟩ := e (q + 1) (by rw [List.length_cons]; omega)
      rw [List.getElem?_cons_succ] at hb
      refine ⟨b, hb, ?_⟩
      rw [h1, List.drop_drop, show 64 + 64 * q = 64 * (q + 1) by omega])
    rw [List.map_cons, List.flatten_cons, ← this, h0, Nat.mul_zero, List.drop_zero, List.take_append_drop]
theorem blocks_iff {S : Nat} {H : List ByteArray} {s : ByteArray} (hH : Blk S H) (hs : s.size = 64 * S) : (∀ q, q < S → H[q]? = some (s.extract (64 * q) (64 * (q + 1)))) ↔ s = allB H := by
  constructor
  · intro h
    apply ba_ext
    rw [allB_data]
    refine flat_of H _ (by rw [size_data, hs, hH.1]) (fun q hq => ⟨_, h q (by rw [← hH.1]; exact hq), ?_⟩)
    rw [xdata, show 64 * (q + 1) - 64 * q = 64 by omega]
  · rintro rfl q hq
    have hq' : q < H.length := by rw [hH.1]; exact hq
    rw [List.getElem?_eq_getElem hq']
    congr 1
    apply ba_ext
    rw [xdata, show 64 * (q + 1) - 64 * q = 64 by omega, allB_data]
    exact (flat_at H hH.2 q _ (List.getElem?_eq_getElem hq')).symm
theorem join_val (k : Nat) (a : Bool) {S : Nat} (hS : S ≤ 1000) {L : List ByteArray} (h : Blk S L) : strings_Join k a L (⟨#[]⟩ : ByteArray) = some (allB L) := by
  unfold strings_Join
  have e : Lib.join (L.map (·.data.toList)) (⟨#[]⟩ : ByteArray).data.toList = (L.map (·.data.toList)).flatten := join_flat _
  rw [e, decide_eq_true (by rw [h.1]; omega), cond_true, decide_eq_true (by rw [flat_len L h.2, h.1]; omega), cond_true]; rfl
def Z64 : ByteArray := ⟨(List.replicate 64 (0 : UInt8)).toArray⟩
theorem zero_val (k : Nat) : xor_Zero k 64 = some Z64 := by kernel_rfl
theorem clone_val (k : Nat) (a : Bool) (L : List ByteArray) (h : L.length ≤ 1000) (h0 : L ≠ []) : slices_Clone k a L = some (false, L) := by
  unfold slices_Clone
  have : L.isEmpty = false := by cases L with | nil => exact absurd rfl h0 | cons => rfl
  rw [this, Bool.and_false, cond_false, decide_eq_true (by rw [List.length_nil]; omega), cond_true, List.nil_append]
theorem and15 (x : Int) : 0 ≤ bitop .and .i64 x 15 ∧ bitop .and .i64 x 15 ≤ 15 := by
  have : bitop .and .i64 x 15 = x % 16 := and_mask x 4 (by decide)
  omega
theorem text_loop {R : Type} (e0 : List Int → Option R) (k n : Nat) (hn : n ≤ 1000) (ad : Int) : ∀ (m j i : Nat) (b : List Int), b.length = n → n - i = m → m < j → i ≤ n → ∃ b' : List Int, b'.length = n ∧ corbellaw23_text_l1 e0 k n ad j i b = e0 b' := by
  intro m
  induction m with
  | zero =>
    intro j i b hb h hj hi
    obtain ⟨j, rfl⟩ : ∃ u, j = u + 1 := ⟨j - 1, by omega⟩
    refine ⟨b, hb, ?_⟩
    rw [corbellaw23_text_l1]; unfold corbellaw23_text_l1s
    rw [decide_eq_false (by omega), cond_false]
  | succ m ih =>
    intro j i b hb h hj hi
    obtain ⟨j, rfl⟩ : ∃ u, j = u + 1 := ⟨j - 1, by omega⟩
    obtain ⟨b', h1, h2⟩ := ih j (i + 1) (List.set b i (bitop .and .u8 ad 3)) (by rw [List.length_set]; exact hb) (by omega) (by omega) (by omega)
    refine ⟨b', h1, ?_⟩
    rw [corbellaw23_text_l1]; unfold corbellaw23_text_l1s
    rw [decide_eq_true (show (i : Int) < n by omega), cond_true, lenI_eq, hb, decide_eq_true (show (0 : Int) ≤ i by omega), decide_eq_true (show (i : Int) < n by omega), Bool.and_self, cond_true, show (i : Int).toNat = i from rfl,
      List.getElem?_eq_getElem (show i < b.length by omega), optb_some, w64 (by omega) (by omega), show (i : Int) + 1 = ((i + 1 : Nat) : Int) by omega, h2]
theorem text_val (k : Nat) (hk : 100 ≤ k) (a b d : Int) : ∃ t, corbellaw23_text k a b 1 d false = some t ∧ t.size = 64 := by
  have e : corbellaw23_text k a b 1 d false = corbellaw23_text_j0 (corbellaw23_text_k0 k) k ((64 : Nat) : Int) d := by kernel_rfl
  rw [e]
  unfold corbellaw23_text_j0
  rw [decide_eq_true (by omega), decide_eq_true (by omega), decide_eq_true (by omega), Bool.and_self, Bool.and_self, cond_true]
  obtain ⟨b', h1, h2⟩ := text_loop (fun b => corbellaw23_text_k0 k (bytesOf b)) k 64 (by omega) d 64 k 0 (List.replicate ((64 : Nat) : Int).toNat (Ty.zero (.int .u8))) (by rw [List.length_replicate]; rfl) rfl (by omega) (by omega)
  refine ⟨bytesOf b', ?_, by rw [bytesOf_size, h1]⟩
  exact h2
def Good (S : Nat) (J : List (Int × ByteArray)) : Prop := ∀ p ∈ J, 0 ≤ p.1 ∧ p.1 < S ∧ p.2.size = 64
theorem Good.add {S : Nat} {J : List (Int × ByteArray)} (h : Good S J) {m : Int} {t : ByteArray} (h0 : 0 ≤ m) (h1 : m < S) (h2 : t.size = 64) : Good S (J ++ [(m, t)]) := by
  intro p hp
  rcases List.mem_append.1 hp with h' | h'
  · exact h p h'
  · rw [List.mem_singleton.1 h']; exact ⟨h0, h1, h2⟩
def after (J : List (Int × ByteArray)) (H : List ByteArray) : List ByteArray := J.foldl (fun h p => List.set h p.1.toNat p.2) H
theorem Blk.set {S : Nat} {H : List ByteArray} (h : Blk S H) (q : Nat) {t : ByteArray} (ht : t.size = 64) : Blk S (List.set H q t) := by
  refine ⟨by rw [List.length_set]; exact h.1, fun b hb => ?_⟩
  rcases List.mem_or_eq_of_mem_set hb with h' | h'
  · exact h.2 b h'
  · rw [h']; exact ht
theorem Blk.after {S : Nat} : ∀ {J : List (Int × ByteArray)} {H : List ByteArray}, Blk S H → Good S J → Blk S (after J H)
  | [], _, h, _ => h
  | p :: J, H, h, g => by
    have g1 := g p (List.mem_cons_self ..)
    exact Blk.after (J := J) (h.set p.1.toNat g1.2.2) (fun q hq => g q (List.mem_cons_of_mem _ hq))
theorem Blk.zeros (S : Nat) : Blk S (List.replicate S Z64) := ⟨List.length_replicate .., fun b hb => by rw [(List.mem_replicate.1 hb).2]; rfl⟩
theorem Blk.ne {S : Nat} {H : List ByteArray} (h : Blk S H) (s1 : 1 ≤ S) : H ≠ [] := by rintro rfl; have := h.1; simp at this; omega
theorem drop_cons' {α : Type} {L : List α} {i : Nat} {p : α} {l : List α} (h : L.drop i = p :: l) : L[i]? = some p ∧ i < L.length ∧ L.drop (i + 1) = l := by
  have h1 : i < L.length := by
    rcases Nat.lt_or_ge i L.length with h' | h'
    · exact h'
    · rw [List.drop_eq_nil_of_le h'] at h; cases h
  rw [List.drop_eq_getElem_cons h1] at h
  obtain ⟨h2, h3⟩ := List.cons.inj h
  exact ⟨by rw [List.getElem?_eq_getElem h1, h2], h1, h3⟩
theorem speaks23 (d : Nat) : corbellaw23_speaks (d + 300) = some true := by kernel_rfl
/-! ### how many blocks are unlike a text's -/
def unl (s : ByteArray) (H : List ByteArray) (q : Nat) : Nat := if H[q]? = some (s.extract (64 * q) (64 * (q + 1))) then 0 else 1
def cn (s : ByteArray) (H : List ByteArray) : Nat → Nat
  | 0 => 0
  | n + 1 => cn s H n + unl s H n
theorem unl_le (s : ByteArray) (H : List ByteArray) (q : Nat) : unl s H q ≤ 1 := by unfold unl; split <;> omega
theorem cn_le (s : ByteArray) (H : List ByteArray) : ∀ n, cn s H n ≤ n
  | 0 => Nat.le_refl 0
  | n + 1 => by have := cn_le s H n; have := unl_le s H n; show cn s H n + unl s H n ≤ n + 1; omega
theorem cn_zero (s : ByteArray) (H : List ByteArray) : ∀ n, cn s H n = 0 ↔ ∀ q, q < n → H[q]? = some (s.extract (64 * q) (64 * (q + 1)))
  | 0 => ⟨fun _ q h => absurd h (by omega), fun _ => rfl⟩
  | n + 1 => by
    have ih := cn_zero s H n
    show cn s H n + unl s H n = 0 ↔ _
    constructor
    · intro h q hq
      by_cases e : q = n
      · subst e
        have : unl s H q = 0 := by omega
        unfold unl at this
        split at this
        · assumption
        · cases this
      · exact ih.1 (by omega) q (by omega)
    · intro h
      rw [ih.2 (fun q hq => h q (by omega))]
      unfold unl
      rw [if_pos (h n (by omega))]
theorem unl_set_other (s : ByteArray) (H : List ByteArray) (b q : Nat) (t : ByteArray) (h : q ≠ b) : unl s (List.set H b t) q = unl s H q := by
  unfold unl
  rw [List.getElem?_set_ne (fun e => h e.symm)]
theorem cn_set_out (s : ByteArray) (H : List ByteArray) (b : Nat) (t : ByteArray) : ∀ n, n ≤ b → cn s (List.set H b t) n = cn s H n
  | 0, _ => rfl
  | n + 1, h => by
    show cn s (List.set H b t) n + unl s (List.set H b t) n = cn s H n + unl s H n
    rw [cn_set_out s H b t n (by omega), unl_set_other s H b n t (by omega)]
theorem cn_set (s : ByteArray) (H : List ByteArray) (b : Nat) (t : ByteArray) : ∀ n, b < n → cn s (List.set H b t) n + unl s H b = cn s H n + unl s (List.set H b t) b
  | 0, h => absurd h (by omega)
  | n + 1, h => by
    show cn s (List.set H b t) n + unl s (List.set H b t) n + unl s H b = cn s H n + unl s H n + unl s (List.set H b t) b
    by_cases e : b = n
    · subst e
      rw [cn_set_out s H b t b (Nat.le_refl _)]; omega
    · have := cn_set s H b t n (by omega)
      rw [unl_set_other s H b n t (by omega)]; omega
/-! ### JudgeFair's own loops. Written by program (jud*.tmpl) -/
theorem write_Fa {R : Type} (e0 : List (Int × ByteArray) → Option R) (k : Nat) (hk : 2 ≤ k) {B : Int} (B0 : 0 ≤ B) (B1 : B ≤ 1000) {t : ByteArray} (ht : t.size = 64) {J : List (Int × ByteArray)} (hJ : J.length ≤ 1000) : corbellaw23_JudgeFair_i10_8_l0 e0 k k B t J = e0 (J ++ [(B, t)]) := by
  obtain ⟨j, hj⟩ : ∃ u, k = u + 2 := ⟨k - 2, by omega⟩
  have hgo : ∀ q, corbellaw23_JudgeFair_i10_8_l0 e0 k (q + 2) B t J = e0 (J ++ [(B, t)]) := by
    intro q
    have n1 : t ≠ (⟨#[]⟩ : ByteArray) := by rintro rfl; exact absurd ht (by decide)
    have x1 : t.extract (0 : Int).toNat (64 : Int).toNat = t := by
      apply ba_ext
      rw [xdata]
      exact List.take_of_length_le (by rw [List.length_drop, size_data, ht]; exact Nat.le_refl _)
    have x2 : t.extract (64 : Int).toNat (((64 : Nat) : Int)).toNat = (⟨#[]⟩ : ByteArray) := by
      apply ba_ext
      rw [xdata]; rfl
    rw [corbellaw23_JudgeFair_i10_8_l0]; unfold corbellaw23_JudgeFair_i10_8_l0s
    rw [decide_eq_false n1, Bool.not_false, cond_true, sizeI_eq, ht, decide_eq_true (show (64 : Int) ≤ ((64 : Nat) : Int) by omega), cond_true]
    simp only [x1, x2]
    rw [decide_eq_true (show J.length + [(B, t)].length ≤ 1099511627776 by rw [List.length_singleton]; omega), cond_true, decide_eq_true (show ((64 : Nat) : Int) ≤ ((64 : Nat) : Int) by omega), Bool.and_self, cond_true, w64 (by omega) (by omega)]
    rw [corbellaw23_JudgeFair_i10_8_l0]; unfold corbellaw23_JudgeFair_i10_8_l0s
    rw [decide_eq_true rfl]; rfl
  have := hgo j
  rw [← hj] at this
  exact this
theorem write_Fb {R : Type} (e0 : List (Int × ByteArray) → Option R) (k : Nat) (hk : 2 ≤ k) {B : Int} (B0 : 0 ≤ B) (B1 : B ≤ 1000) {t : ByteArray} (ht : t.size = 64) {J : List (Int × ByteArray)} (hJ : J.length ≤ 1000) : corbellaw23_JudgeFair_i10_8_l0b e0 k k B t J = e0 (J ++ [(B, t)]) := by
  obtain ⟨j, hj⟩ : ∃ u, k = u + 2 := ⟨k - 2, by omega⟩
  have hgo : ∀ q, corbellaw23_JudgeFair_i10_8_l0b e0 k (q + 2) B t J = e0 (J ++ [(B, t)]) := by
    intro q
    have n1 : t ≠ (⟨#[]⟩ : ByteArray) := by rintro rfl; exact absurd ht (by decide)
    have x1 : t.extract (0 : Int).toNat (64 : Int).toNat = t := by
      apply ba_ext
      rw [xdata]
      exact List.take_of_length_le (by rw [List.length_drop, size_data, ht]; exact Nat.le_refl _)
    have x2 : t.extract (64 : Int).toNat (((64 : Nat) : Int)).toNat = (⟨#[]⟩ : ByteArray) := by
      apply ba_ext
      rw [xdata]; rfl
    rw [corbellaw23_JudgeFair_i10_8_l0b]; unfold corbellaw23_JudgeFair_i10_8_l0bs
    rw [decide_eq_false n1, Bool.not_false, cond_true, sizeI_eq, ht, decide_eq_true (show (64 : Int) ≤ ((64 : Nat) : Int) by omega), cond_true]
    simp only [x1, x2]
    rw [decide_eq_true (show J.length + [(B, t)].length ≤ 1099511627776 by rw [List.length_singleton]; omega), cond_true, decide_eq_true (show ((64 : Nat) : Int) ≤ ((64 : Nat) : Int) by omega), Bool.and_self, cond_true, w64 (by omega) (by omega)]
    rw [corbellaw23_JudgeFair_i10_8_l0b]; unfold corbellaw23_JudgeFair_i10_8_l0bs
    rw [decide_eq_true rfl]; rfl
  have := hgo j
  rw [← hj] at this
  exact this
theorem after_F {R : Type} (e0 : List ByteArray → Option R) (k : Nat) {S : Nat} (s2 : S ≤ 1000) {J : List (Int × ByteArray)} (hJ : J.length ≤ 1000) (g : Good S J) : ∀ (rest : List (Int × ByteArray)) (j i : Nat) (H : List ByteArray), J.drop i = rest → rest.length < j → i ≤ J.length → Blk S H →
    corbellaw23_JudgeFair_i35_8_l0 e0 k (lenI J) J j i H = e0 (after rest H)
  | [], j, i, H, h, hj, hi, hH => by
    obtain ⟨j, rfl⟩ : ∃ u, j = u + 1 := ⟨j - 1, by omega⟩
    have := congrArg List.length h
    rw [List.length_drop, List.length_nil] at this
    rw [corbellaw23_JudgeFair_i35_8_l0]; unfold corbellaw23_JudgeFair_i35_8_l0s
    rw [lenI_eq, decide_eq_false (by omega), cond_false]; rfl
  | p :: rest, j, i, H, h, hj, hi, hH => by
    obtain ⟨j, rfl⟩ : ∃ u, j = u + 1 := ⟨j - 1, by omega⟩
    obtain ⟨h1, h2, h3⟩ := drop_cons' h
    have gp := g p (List.mem_of_getElem? h1)
    have hpq : p.1.toNat < H.length := by rw [hH.1]; omega
    rw [corbellaw23_JudgeFair_i35_8_l0]; unfold corbellaw23_JudgeFair_i35_8_l0s
    rw [lenI_eq, decide_eq_true (show (i : Int) < J.length by omega), cond_true, decide_eq_true (show (0 : Int) ≤ i by omega), Bool.and_self, cond_true, show (i : Int).toNat = i from rfl, h1, optb_some, lenI_eq, hH.1,
      decide_eq_true gp.1, decide_eq_true gp.2.1, Bool.and_self, cond_true, List.getElem?_eq_getElem hpq, optb_some, w64 (by omega) (by omega), show (i : Int) + 1 = ((i + 1 : Nat) : Int) by omega, ← lenI_eq J]
    rw [List.length_cons] at hj
    exact after_F e0 k s2 hJ g rest j (i + 1) (List.set H p.1.toNat p.2) h3 (by omega) (by omega) (hH.set _ gp.2.2)
theorem cnt_F {R : Type} (e0 : Int → Option R) (k : Nat) (S : Nat) (s2 : S ≤ 1000) (s : ByteArray) (hs : s.size = 64 * S) (H : List ByteArray) (hH : H.length = S) : ∀ (n j i : Nat), S - i = n → n < j → i ≤ S → corbellaw23_JudgeFair_i12_9_l1 e0 k S s H j (cn s H i) i = e0 (cn s H S) := by
  intro n
  induction n with
  | zero =>
    intro j i h hj hi
    obtain ⟨j, rfl⟩ : ∃ u, j = u + 1 := ⟨j - 1, by omega⟩
    obtain rfl : i = S := by omega
    rw [corbellaw23_JudgeFair_i12_9_l1]; unfold corbellaw23_JudgeFair_i12_9_l1s
    rw [decide_eq_false (by omega), cond_false]
  | succ n ih =>
    intro j i h hj hi
    obtain ⟨j, rfl⟩ : ∃ u, j = u + 1 := ⟨j - 1, by omega⟩
    have hi' : i < H.length := by omega
    have hb : H[(i : Int).toNat]? = some (H[i]) := List.getElem?_eq_getElem hi'
    have hcl := cn_le s H i
    rw [← ih j (i + 1) (by omega) (by omega) (by omega)]
    rw [corbellaw23_JudgeFair_i12_9_l1]; unfold corbellaw23_JudgeFair_i12_9_l1s
    rw [decide_eq_true (show (i : Int) < S by omega), cond_true, lenI_eq, hH, decide_eq_true (show (0 : Int) ≤ i by omega), decide_eq_true (show (i : Int) < S by omega), Bool.and_self, cond_true, hb, optb_some]
    try simp only
    rw [w64 (n := (i : Int) + 1) (by omega) (by omega), w64 (n := ((i : Int) + 1) * 64) (by omega) (by omega), w64 (n := (i : Int) * 64) (by omega) (by omega), sizeI_eq, hs, decide_eq_true (show (0 : Int) ≤ (i : Int) * 64 by omega),
      decide_eq_true (show (i : Int) * 64 ≤ ((i : Int) + 1) * 64 by omega), decide_eq_true (show ((i : Int) + 1) * 64 ≤ ((64 * S : Nat) : Int) by omega), Bool.and_self, Bool.and_self, cond_true,
      show ((i : Int) * 64).toNat = 64 * i by omega, show (((i : Int) + 1) * 64).toNat = 64 * (i + 1) by omega]
    by_cases e : H[i] = s.extract (64 * i) (64 * (i + 1))
    · have hu : cn s H (i + 1) = cn s H i := by
        show cn s H i + unl s H i = _
        unfold unl
        rw [List.getElem?_eq_getElem hi', e, if_pos rfl]; rfl
      rw [decide_eq_true e, Bool.not_true, cond_false, hu]; unfold corbellaw23_JudgeFair_i12_9_j2
      rw [w64 (by omega) (by omega)]; rfl
    · have hu : cn s H (i + 1) = cn s H i + 1 := by
        show cn s H i + unl s H i = _
        unfold unl
        rw [List.getElem?_eq_getElem hi', if_neg (fun a => e (Option.some.inj a))]
      rw [decide_eq_false e, Bool.not_false, cond_true, hu]; unfold corbellaw23_JudgeFair_i12_9_j2
      rw [w64 (by omega) (by omega), w64 (by omega) (by omega)]; rfl
theorem seek_F {R : Type} (e0 : Int → Bool → List ByteArray → Option R) (k : Nat) {S : Nat} (s2 : S ≤ 1000) {J : List (Int × ByteArray)} (hJ : J.length ≤ 1000) (g : Good S J) {s : ByteArray} (hs : s.size = 64 * S) {m : Nat} (hm : m ≤ J.length) {G : List ByteArray} (hG : s = allB G) :
    ∀ (n j i : Nat) (H : List ByteArray), m - i = n → n < j → i ≤ m → Blk S H → after ((J.drop i).take n) H = G →
    ∃ (i' : Nat) (H' : List ByteArray), i' ≤ m ∧ Blk S H' ∧ allB H' = s ∧ corbellaw23_JudgeFair_i12_9_l3 e0 k J s j (cn s H S) i H = e0 i' true H' := by
  intro n
  induction n with
  | zero =>
    intro j i H h hj hi hH ha
    obtain ⟨j, rfl⟩ : ∃ u, j = u + 1 := ⟨j - 1, by omega⟩
    rw [List.take_zero] at ha
    have ha : H = G := ha
    subst ha
    refine ⟨i, H, by omega, hH, hG.symm, ?_⟩
    have hz : cn s H S = 0 := (cn_zero s H S).2 ((blocks_iff hH hs).2 hG)
    rw [corbellaw23_JudgeFair_i12_9_l3]; unfold corbellaw23_JudgeFair_i12_9_l3s
    rw [hz, decide_eq_true (show ((0 : Nat) : Int) = 0 from rfl), cond_true]
  | succ n ih =>
    intro j i H h hj hi hH ha
    obtain ⟨j, rfl⟩ : ∃ u, j = u + 1 := ⟨j - 1, by omega⟩
    by_cases hz : cn s H S = 0
    · refine ⟨i, H, by omega, hH, ((blocks_iff hH hs).1 ((cn_zero s H S).1 hz)).symm, ?_⟩
      rw [corbellaw23_JudgeFair_i12_9_l3]; unfold corbellaw23_JudgeFair_i12_9_l3s
      rw [hz, decide_eq_true (show ((0 : Nat) : Int) = 0 from rfl), cond_true]
    · have hil : i < J.length := by omega
      have gp := g J[i] (List.getElem_mem hil)
      generalize hp : J[i] = p at gp
      obtain ⟨b, hb⟩ : ∃ b : Nat, p.1 = b := ⟨p.1.toNat, by omega⟩
      have hbS : b < S := by omega
      have hbH : b < H.length := by rw [hH.1]; exact hbS
      have hH1 := hH.set b gp.2.2
      rw [List.drop_eq_getElem_cons hil, List.take_succ_cons, hp] at ha
      have ha' : after ((J.drop (i + 1)).take n) (List.set H b p.2) = G := by rw [← ha]; show _ = after _ (List.set H p.1.toNat p.2); rw [hb]; rfl
      obtain ⟨i', H', g1, g2, g3, g4⟩ := ih j (i + 1) (List.set H b p.2) (by omega) (by omega) (by omega) hH1 ha'
      refine ⟨i', H', g1, g2, g3, ?_⟩
      rw [← g4]
      have hset := cn_set s H b p.2 S hbS
      have hu1 := unl_le s H b
      have hu2 := unl_le s (List.set H b p.2) b
      have hc1 := cn_le s H S
      have hbh1 : b < (List.set H b p.2).length := by rw [List.length_set]; exact hbH
      have hx1 : (List.set H b p.2)[b]? = some p.2 := List.getElem?_set_self hbH
      rw [corbellaw23_JudgeFair_i12_9_l3]; unfold corbellaw23_JudgeFair_i12_9_l3s
      rw [decide_eq_false (show ¬ ((cn s H S : Nat) : Int) = 0 by omega), cond_false, lenI_eq J, decide_eq_false (show ¬ ((i : Nat) : Int) = (J.length : Nat) by omega), cond_false, decide_eq_true (show (0 : Int) ≤ i by omega), decide_eq_true (show (i : Int) < J.length by omega), Bool.and_self, cond_true,
        show (i : Int).toNat = i from rfl, List.getElem?_eq_getElem hil, optb_some, hp, hb, lenI_eq H, hH.1, decide_eq_true (show (0 : Int) ≤ b by omega), decide_eq_true (show (b : Int) < S by omega), Bool.and_self, cond_true, show (b : Int).toNat = b from rfl, List.getElem?_eq_getElem hbH, optb_some]
      try simp only
      rw [w64 (n := (b : Int) + 1) (by omega) (by omega), w64 (n := ((b : Int) + 1) * 64) (by omega) (by omega), w64 (n := (b : Int) * 64) (by omega) (by omega), sizeI_eq, hs, decide_eq_true (show (0 : Int) ≤ (b : Int) * 64 by omega),
        decide_eq_true (show (b : Int) * 64 ≤ ((b : Int) + 1) * 64 by omega), decide_eq_true (show ((b : Int) + 1) * 64 ≤ ((64 * S : Nat) : Int) by omega), Bool.and_self, Bool.and_self, cond_true,
        show ((b : Int) * 64).toNat = 64 * b by omega, show (((b : Int) + 1) * 64).toNat = 64 * (b + 1) by omega]
      have hj4 : ∀ (w : Nat) (e : Int → List ByteArray → Option R), w ≤ 2000 → corbellaw23_JudgeFair_i12_9_j4 e k w s H b p.2 = e ((w + unl s (List.set H b p.2) b : Nat) : Int) (List.set H b p.2) := by
        intro w e hw
        unfold corbellaw23_JudgeFair_i12_9_j4
        rw [lenI_eq H, hH.1, decide_eq_true (show (0 : Int) ≤ b by omega), decide_eq_true (show (b : Int) < S by omega), Bool.and_self, cond_true, show (b : Int).toNat = b from rfl, List.getElem?_eq_getElem hbH, optb_some,
          lenI_eq, hH1.1, decide_eq_true (show (b : Int) < S by omega), Bool.and_self, cond_true, hx1, optb_some]
        try simp only
        rw [w64 (n := (b : Int) + 1) (by omega) (by omega), w64 (n := ((b : Int) + 1) * 64) (by omega) (by omega), w64 (n := (b : Int) * 64) (by omega) (by omega), sizeI_eq, hs, decide_eq_true (show (0 : Int) ≤ (b : Int) * 64 by omega),
          decide_eq_true (show (b : Int) * 64 ≤ ((b : Int) + 1) * 64 by omega), decide_eq_true (show ((b : Int) + 1) * 64 ≤ ((64 * S : Nat) : Int) by omega), Bool.and_self, Bool.and_self, cond_true,
          show ((b : Int) * 64).toNat = 64 * b by omega, show (((b : Int) + 1) * 64).toNat = 64 * (b + 1) by omega]
        unfold unl
        rw [hx1]
        by_cases e2 : p.2 = s.extract (64 * b) (64 * (b + 1))
        · rw [decide_eq_true e2, Bool.not_true, cond_false, if_pos (by rw [← e2]), Nat.add_zero]
        · rw [decide_eq_false e2, Bool.not_false, cond_true, if_neg (fun a => e2 (Option.some.inj a)), w64 (by omega) (by omega)]; rfl
      by_cases e1' : H[b] = s.extract (64 * b) (64 * (b + 1))
      · have hu : unl s H b = 0 := by unfold unl; rw [List.getElem?_eq_getElem hbH, e1', if_pos rfl]
        rw [decide_eq_true e1', Bool.not_true, cond_false, hj4 _ _ (by omega)]
        unfold corbellaw23_JudgeFair_i12_9_j5
        rw [w64 (by omega) (by omega), show cn s H S + unl s (List.set H b p.2) b = cn s (List.set H b p.2) S by omega]; rfl
      · have hu : unl s H b = 1 := by unfold unl; rw [List.getElem?_eq_getElem hbH, if_neg (fun a => e1' (Option.some.inj a))]
        rw [decide_eq_false e1', Bool.not_false, cond_true, w64 (n := ((cn s H S : Nat) : Int) - 1) (by omega) (by omega), show ((cn s H S : Nat) : Int) - 1 = ((cn s H S - 1 : Nat) : Int) by omega, hj4 _ _ (by omega)]
        unfold corbellaw23_JudgeFair_i12_9_j5
        rw [w64 (by omega) (by omega), show cn s H S - 1 + unl s (List.set H b p.2) b = cn s (List.set H b p.2) S by omega]; rfl
theorem found_F {R : Type} (e0 : Int → Bool → List ByteArray → Option R) (k : Nat) (hk : 1500 ≤ k) {S : Nat} (s2 : S ≤ 1000) {J : List (Int × ByteArray)} (hJ : J.length ≤ 1000) (g : Good S J) {s : ByteArray} (hs : s.size = 64 * S) {m : Nat} (hm : m ≤ J.length) {H : List ByteArray} (hH : Blk S H) (hG : s = allB (after (J.take m) H)) (r : Option R)
    (h : ∀ (i' : Nat) (H' : List ByteArray), i' ≤ m → Blk S H' → allB H' = s → e0 i' true H' = r) : corbellaw23_JudgeFair_i12_9_j0 e0 k J s H = r := by
  unfold corbellaw23_JudgeFair_i12_9_j0
  rw [lenI_eq, hH.1]
  refine Eq.trans (cnt_F _ k S s2 s hs H hH.1 S k 0 (by omega) (by omega) (by omega)) ?_
  obtain ⟨i', H', g1, g2, g3, g4⟩ := seek_F (fun v u l => e0 v u l) k s2 hJ g hs hm hG m k 0 H (by omega) (by omega) (by omega) hH (by rw [List.drop_zero])
  exact g4.trans (h i' H' g1 g2 g3)
theorem step_F {R : Type} (e0 : List (Int × ByteArray) → List (Int × ByteArray) → Option R) (k : Nat) (hk : 100 ≤ k) {S : Nat} (s1 : 1 ≤ S) (s2 : S ≤ 16) {H1 H2 : List ByteArray} (h1 : Blk S H1) (h2 : Blk S H2) (cut i : Int) {t : ByteArray} (ht : t.size = 64) {b : Int} (b0 : 0 ≤ b) (b1 : b < S) {J K : List (Int × ByteArray)} (hJ : J.length ≤ 1000) (hK : K.length ≤ 1000) :
    corbellaw23_JudgeFair_j1 e0 k cut i t b H1 H2 J K = e0 (J ++ [(b, t)]) (if i < cut then K ++ [(b, t)] else K) := by
  have e1 : decide (Int.tmod ((64 : Nat) : Int) 64 = 0) = true := by decide
  have e2 : wrap64 (Int.tdiv ((64 : Nat) : Int) 64) = 1 := by kernel_rfl
  have f1 : decide (b < 0) = false := decide_eq_false (by omega)
  have f2 : decide ((1 : Int) < 1) = false := by decide
  have f3 : decide ((S : Int) < b) = false := decide_eq_false (by omega)
  have f4 : decide (wrap64 ((S : Int) - b) < 1) = false := by rw [w64 (by omega) (by omega)]; exact decide_eq_false (by omega)
  have g1 : lenI H1 = (S : Int) := by rw [lenI_eq, h1.1]
  have g2 : lenI H2 = (S : Int) := by rw [lenI_eq, h2.1]
  unfold corbellaw23_JudgeFair_j1
  rw [sizeI_eq, ht]
  simp only [e1, e2, f1, f2, f3, f4, g1, g2, Bool.not_true, cond_false, cond_true, corbellaw23_JudgeFair_i33_8_j0, corbellaw23_JudgeFair_i33_8_j0b]
  rw [write_Fa _ k (by omega) b0 (by omega) ht hJ]
  by_cases h : i < cut
  · rw [decide_eq_true h, cond_true, if_pos h, write_Fb _ k (by omega) b0 (by omega) ht hK]
  · rw [decide_eq_false h, cond_false, if_neg h]
theorem script_F {R : Type} (e0 : List (Int × ByteArray) → List (Int × ByteArray) → Option R) (k : Nat) (hk : 100 ≤ k) {S : Nat} (s1 : 1 ≤ S) (s2 : S ≤ 16) (L : List (Int × (Int × (Int × (Int × Bool))))) (hL : ∀ x ∈ L, -9223372036854775808 ≤ x.2.1 ∧ x.2.1 ≤ 9223372036854775807) (c : Nat) {H1 H2 : List ByteArray} (h1 : Blk S H1) (h2 : Blk S H2) :
    ∀ (n j i : Nat) (J : List (Int × ByteArray)), 60 - i = n → n < j → i ≤ 60 → i ≤ L.length → Good S J → J.length = i →
    ∃ J', Good S J' ∧ J'.length = min L.length 60 ∧ corbellaw23_JudgeFair_l0 e0 k S L c H1 H2 j i J (J.take c) = e0 J' (J'.take c) := by
  intro n
  induction n with
  | zero =>
    intro j i J h hj hi hi2 hJ hl
    obtain ⟨j, rfl⟩ : ∃ u, j = u + 1 := ⟨j - 1, by omega⟩
    refine ⟨J, hJ, by omega, ?_⟩
    rw [corbellaw23_JudgeFair_l0]; unfold corbellaw23_JudgeFair_l0s
    rw [decide_eq_false (show ¬ (i : Int) < 60 by omega), cond_false, Bool.cond_self]
  | succ n ih =>
    intro j i J h hj hi hi2 hJ hl
    obtain ⟨j, rfl⟩ : ∃ u, j = u + 1 := ⟨j - 1, by omega⟩
    by_cases hi' : i < L.length
    · have hx := hL L[i] (List.getElem_mem hi')
      have hm := mod_in2 (x := L[i].2.1) (c := S) hx (by omega) (by omega)
      obtain ⟨mm, hmm⟩ : ∃ mm, Int.tmod (wrap64 (Int.tmod L[i].2.1 S + S)) S = mm := ⟨_, rfl⟩
      rw [hmm] at hm
      obtain ⟨t, ht, hs⟩ := text_val k hk L[i].1 L[i].2.1 L[i].2.2.2.1
      obtain ⟨J', g1, g2, g3⟩ := ih j (i + 1) (J ++ [(mm, t)]) (by omega) (by omega) (by omega) (by omega) (hJ.add hm.1 hm.2 hs) (by rw [List.length_append, hl]; rfl)
      refine ⟨J', g1, g2, ?_⟩
      rw [← g3]
      rw [corbellaw23_JudgeFair_l0]; unfold corbellaw23_JudgeFair_l0s
      rw [lenI_eq, decide_eq_true (show (i : Int) < L.length by omega), cond_true, decide_eq_true (show (i : Int) < 60 by omega), cond_true, decide_eq_true (show (0 : Int) ≤ i by omega), cond_true, show (i : Int).toNat = i from rfl,
        List.getElem?_eq_getElem hi', optb_some, ht, optb_some, decide_eq_false (show ¬ (S : Int) = 0 by omega), cond_false, cond_false, hmm]
      rw [step_F _ k hk s1 s2 h1 h2 c i hs hm.1 hm.2 (by omega) (by rw [List.length_take]; omega)]
      unfold corbellaw23_JudgeFair_j2
      rw [w64 (n := (i : Int) + 1) (by omega) (by omega)]
      have e : (if (i : Int) < (c : Int) then J.take c ++ [(mm, t)] else J.take c) = (J ++ [(mm, t)]).take c := by
        by_cases hc : i < c
        · rw [if_pos (by omega), List.take_of_length_le (by omega), List.take_of_length_le (by rw [List.length_append, List.length_singleton]; omega)]
        · rw [if_neg (by omega), List.take_append_of_le_length (by omega)]
      rw [e]; rfl
    · refine ⟨J, hJ, by omega, ?_⟩
      rw [corbellaw23_JudgeFair_l0]; unfold corbellaw23_JudgeFair_l0s
      rw [lenI_eq, decide_eq_false (show ¬ (i : Int) < L.length by omega), cond_false]
theorem and63 (x : Int) : 0 ≤ bitop .and .i64 x 63 ∧ bitop .and .i64 x 63 ≤ 63 := by
  have : bitop .and .i64 x 63 = x % 64 := and_mask x 6 (by decide)
  omega
theorem Good.take {S : Nat} {J : List (Int × ByteArray)} (h : Good S J) (c : Nat) : Good S (J.take c) := fun p hp => h p (List.mem_of_mem_take hp)
theorem tell_F (k : Nat) (hk : 2000 ≤ k) {S : Nat} (s1 : 1 ≤ S) (s2 : S ≤ 16) (cut : Int) (c : Nat) (hc : bitop .and .i64 cut 63 = c) (L : List (Int × (Int × (Int × (Int × Bool))))) (z1 z2 : List ByteArray) {J : List (Int × ByteArray)} (hJ : J.length = min L.length 60) (g : Good S J) :
    corbellaw23_JudgeFair_k0 k cut L S z1 false (List.replicate S Z64) z2 false (List.replicate S Z64) J (J.take c) = some true := by
  have hZ := Blk.zeros S
  have hlz : lenI (List.replicate S Z64) = (S : Int) := by rw [lenI_eq, hZ.1]
  have f1 : decide ((S : Int) < 1) = false := decide_eq_false (by omega)
  have f2 : decide ((S : Int) < 0) = false := decide_eq_false (by omega)
  have f3 : decide (wrap64 ((S : Int) - 0) < S) = false := by rw [w64 (by omega) (by omega)]; exact decide_eq_false (by omega)
  have f4 : wrap64 (0 + (S : Int)) = S := by rw [w64 (by omega) (by omega)]; omega
  have f5 : decide ((0 : Int) ≤ S) = true := decide_eq_true (by omega)
  have f6 : decide ((S : Int) ≤ S) = true := decide_eq_true (by omega)
  unfold corbellaw23_JudgeFair_k0
  rw [f1, cond_false, hlz, f2, cond_false, f3]
  unfold corbellaw23_JudgeFair_i33_8_j0
  rw [cond_false, clone_val k false _ (by rw [List.length_replicate]; omega) (hZ.ne s1), optb_some]
  refine Eq.trans (after_F _ k (by omega) (by rw [List.length_take]; omega) (g.take c) (J.take c) k 0 _ List.drop_zero (by rw [List.length_take]; omega) (by omega) hZ) ?_
  have hG := hZ.after (g.take c)
  generalize hGe : after (J.take c) (List.replicate S Z64) = G at hG ⊢
  have hlG : lenI G = (S : Int) := by rw [lenI_eq, hG.1]
  have ht : ∀ {H : List ByteArray}, Blk S H → (H.drop (0 : Int).toNat).take ((S : Int) - 0).toNat = H := fun {H} h => by
    rw [show (0 : Int).toNat = 0 from rfl, List.drop_zero, List.take_of_length_le (by rw [h.1]; omega)]
  have hz := allB_size hG
  have c1 : (!decide ((((64 * S : Nat) : Int)) = wrap64 ((S : Int) * 64))) = false := by rw [w64 (by omega) (by omega), decide_eq_true (by omega)]; rfl
  simp only [f4]
  rw [f5, hlG, f6, Bool.and_self, cond_true, ht hG, join_val k _ (by omega) hG, optb_some, sizeI_eq, hz, c1, cond_false, optb_some]
  try simp only
  refine found_F _ k (by omega) (by omega) (by omega) g hz (m := (J.take c).length) (by rw [List.length_take]; omega) hZ (by rw [List.length_take, ← List.take_eq_take_min, hGe]) _ ?_
  intro i' H' hi hH' he
  have hlH : lenI H' = (S : Int) := by rw [lenI_eq, hH'.1]
  have hgo : ∀ (e : Option Bool) (j : Nat), corbellaw23_JudgeFair_i35_11_l0 e k 0 0 (j + 1) = e := by
    intro e j
    rw [corbellaw23_JudgeFair_i35_11_l0]; unfold corbellaw23_JudgeFair_i35_11_l0s
    rw [decide_eq_false (by omega), cond_false]
  have hgo' : ∀ e : Option Bool, corbellaw23_JudgeFair_i35_11_l0 e k 0 0 k = e := by
    intro e
    have := hgo e (k - 1)
    rwa [show k - 1 + 1 = k by omega] at this
  try simp only
  rw [hlH, f2, f3]
  try simp only [cond_false]
  unfold corbellaw23_JudgeFair_i33_11_j0
  rw [cond_false, clone_val k false H' (by rw [hH'.1]; omega) (hH'.ne s1), optb_some, hgo']
  try simp only
  rw [hlH, f6, Bool.and_self, cond_true, ht hH', join_val k _ (by omega) hH', optb_some, cond_true, he, decide_eq_true rfl, cond_true, hc]
  rw [List.length_take] at hi
  rw [lenI_eq]
  by_cases h60 : (60 : Int) < L.length
  · rw [decide_eq_true h60, cond_true]
    by_cases hcc : (60 : Int) < c
    · rw [decide_eq_true hcc, cond_true, decide_eq_true (by omega), cond_true]
    · rw [decide_eq_false hcc, cond_false, decide_eq_true (by omega), cond_true]
  · rw [decide_eq_false h60, cond_false]
    by_cases hcc : (L.length : Int) < c
    · rw [decide_eq_true hcc, cond_true, decide_eq_true (by omega), cond_true]
    · rw [decide_eq_false hcc, cond_false, decide_eq_true (by omega), cond_true]
theorem JudgeFair : JudgeFairPure := by
  intro x0 x1 x2 h0 h1 h2
  obtain ⟨xa, L⟩ := x1
  have hL : ∀ x ∈ L, -9223372036854775808 ≤ x.2.1 ∧ x.2.1 ≤ 9223372036854775807 := fun x hx => wf_i64 (h1.2.2 x hx).2.1
  refine ⟨1700 + 300, ?_⟩
  have hb := and15 x0
  have hcb := and63 x2
  have hsp : corbellaw23_speaks (1700 + 300) = some true := speaks23 1700
  generalize hk : 1700 + 300 = k at hsp ⊢
  unfold corbellaw23_JudgeFair
  rw [hsp, optb_some, Bool.not_true, cond_false]
  try simp only
  generalize bitop .and .i64 x0 15 = q at hb ⊢
  obtain ⟨S, hS⟩ : ∃ S : Nat, 1 + q = S := ⟨(1 + q).toNat, by omega⟩
  obtain ⟨c, hc⟩ : ∃ c : Nat, bitop .and .i64 x2 63 = c := ⟨(bitop .and .i64 x2 63).toNat, by omega⟩
  have s1 : 1 ≤ S := by omega
  have s2 : S ≤ 16 := by omega
  have f1 : decide ((S : Int) < 1) = false := decide_eq_false (by omega)
  have f2 : decide ((65536 : Int) < S) = false := decide_eq_false (by omega)
  rw [w64 (n := 1 + q) (by omega) (by omega), hS]
  simp only [f1, f2, cond_false, corbellaw23_JudgeFair_i8_0_j0, corbellaw23_JudgeFair_i8_3_j0, zero_val, optb_some, repeat_val Z64 k (c := (S : Int)) (by omega) (by omega) (by omega), Int.toNat_natCast, hc]
  obtain ⟨J, g1, g2, g3⟩ := script_F (fun j l => corbellaw23_JudgeFair_k0 k x2 L S [Z64] false (List.replicate S Z64) [Z64] false (List.replicate S Z64) j l) k (by omega) s1 s2 L hL c (Blk.zeros S) (Blk.zeros S) 60 k 0 [] rfl (by omega) (by omega) (by omega) (fun p hp => by cases hp) rfl
  rw [List.take_nil] at g3
  refine Eq.trans g3 ?_
  exact tell_F k (by omega) s1 s2 x2 c hc L [Z64] [Z64] g2 g1
end Go.Proofs.Ytiolpmgphkakeaa.Pure
