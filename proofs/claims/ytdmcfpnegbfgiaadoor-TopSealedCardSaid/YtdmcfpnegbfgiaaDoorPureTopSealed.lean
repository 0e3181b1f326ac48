/- TopSealed: the pure statement, over numbers and lists alone; no conditions. -/
import Derived.Test.YtdmcfpnegbfgiaaDoorStatTopSealed
set_option linter.unusedVariables false
set_option linter.unusedSimpArgs false
namespace Go.Proofs.YtdmcfpnegbfgiaaDoor.Pure
open Go Go.RowKit Go.Proofs.YtdmcfpnegbfgiaaDoor.Ev
/-! ### whole numbers -/
theorem wf_i64 {n : Int} (h : Ty.wf (.int .i64) n) : -9223372036854775808 ≤ n ∧ n ≤ 9223372036854775807 := by
  have h : (Lit.int .i64 n).wf = true := h
  simpa [Lit.wf, IntKind.min, IntKind.max, IntKind.signed, IntKind.bits] using h
theorem w64 {n : Int} (h0 : -9223372036854775808 ≤ n) (h1 : n ≤ 9223372036854775807) : wrap64 n = n := by unfold wrap64; omega
theorem tdiv_pos {a b : Int} (ha : 0 ≤ a) : Int.tdiv a b = a / b := Int.tdiv_eq_ediv_of_nonneg ha
theorem tmod_pos {a b : Int} (ha : 0 ≤ a) : Int.tmod a b = a % b := Int.tmod_eq_emod_of_nonneg ha
theorem bytesOf_append (a b : List Int) : bytesOf a ++ bytesOf b = bytesOf (a ++ b) := by
  apply ByteArray.ext
  simp [bytesOf]
theorem cond_t {α : Type} {c : Bool} {a b : α} (h : c = true) : (bif c then a else b) = a := by rw [h]; rfl
theorem cond_f {α : Type} {c : Bool} {a b : α} (h : c = false) : (bif c then a else b) = b := by rw [h]; rfl
theorem optb_some {α β : Type} (a : α) (f : α → Option β) : optb (some a) f = f a := rfl
theorem and_mask (x : Int) (i : Nat) (hi : i ≤ 62) : bitop .and .i64 x (2 ^ i - 1) = x % 2 ^ i := by
  have h2 : (2 : Nat) ^ i ≤ 2 ^ 62 := Nat.pow_le_pow_right (by decide) hi
  have h62 : (2 : Nat) ^ 62 = 4611686018427387904 := by decide
  have h64 : (2 : Nat) ^ 64 = 18446744073709551616 := by decide
  have hp : 0 < 2 ^ i := Nat.two_pow_pos i
  have hc : ((2 : Int) ^ i - 1) = ((2 ^ i - 1 : Nat) : Int) := by rw [Int.natCast_sub hp]; simp
  have hd : (2 ^ i : Nat) ∣ 2 ^ 64 := Nat.pow_dvd_pow 2 (by omega)
  have hb : IntKind.i64.bits = 64 := rfl
  have key : ((BitVec.ofInt 64 x &&& BitVec.ofInt 64 (2 ^ i - 1)).toNat : Int) = x % 2 ^ i := by
    rw [hc, BitVec.ofInt_natCast, BitVec.toNat_and, BitVec.toNat_ofNat, Nat.mod_eq_of_lt (show 2 ^ i - 1 < 2 ^ 64 by omega), Nat.and_two_pow_sub_one_eq_mod, BitVec.toNat_ofInt,
      Int.natCast_emod, Int.toNat_of_nonneg (Int.emod_nonneg _ (by decide)), Int.emod_emod_of_dvd]
    · simp
    · exact Int.natCast_dvd_natCast.2 hd
  have hlt : ((BitVec.ofInt 64 x &&& BitVec.ofInt 64 (2 ^ i - 1)).toNat : Int) < 4611686018427387904 := by
    rw [key]
    have : x % ((2 ^ i : Nat) : Int) < ((2 ^ i : Nat) : Int) := Int.emod_lt_of_pos _ (by omega)
    have e : ((2 ^ i : Nat) : Int) = (2 : Int) ^ i := by simp
    rw [e] at this
    have : (2 : Int) ^ i ≤ 4611686018427387904 := by rw [← e]; omega
    omega
  show IntKind.i64.wrap ((BitVec.ofInt 64 x &&& BitVec.ofInt 64 (2 ^ i - 1)).toNat : Int) = x % 2 ^ i
  rw [IntKind.wrap_i64]
  omega
/-! ### bytes, the greatest first -/
def be (n : Int) : Nat → List Int
  | 0 => []
  | w + 1 => (n / 256 ^ w % 256) :: be n w
theorem be_length (n : Int) : ∀ w, (be n w).length = w
  | 0 => rfl
  | w + 1 => by simp [be, be_length n w]
theorem u8_wrap (x : Int) : IntKind.u8.wrap x = x % 256 := by simp [IntKind.wrap, IntKind.signed, IntKind.bits]
theorem be_range (n : Int) : ∀ w, ∀ x ∈ be n w, 0 ≤ x ∧ x < 256
  | 0, x, h => by simp [be] at h
  | w + 1, x, h => by
    rcases List.mem_cons.1 h with rfl | h
    · omega
    · exact be_range n w x h
def u8s (l : List Int) : List UInt8 := l.map fun n => UInt8.ofNat n.toNat
theorem bytesOf_data (l : List Int) : (bytesOf l).data = (u8s l).toArray := rfl
theorem toList_data (s : ByteArray) : s.toList = s.data.toList := by
  have loop : ∀ (i : Nat) (r : List UInt8), ByteArray.toList.loop s i r = r.reverse ++ s.data.toList.drop i := by
    intro i r
    fun_induction ByteArray.toList.loop s i r with
    | case1 i r h ih =>
      rw [ih, List.reverse_cons, List.append_assoc]
      congr 1
      have hi : i < s.data.toList.length := by simpa using h
      rw [List.drop_eq_getElem_cons hi]
      simp [ByteArray.get!, h]
    | case2 i r h =>
      have : s.data.toList.length ≤ i := by simpa using h
      rw [List.drop_eq_nil_of_le this, List.append_nil]
  unfold ByteArray.toList
  rw [loop]; simp
theorem bytesOf_toList (l : List Int) : (bytesOf l).toList = u8s l := by rw [toList_data, bytesOf_data]
theorem bytesOf_size (l : List Int) : (bytesOf l).size = l.length := by
  show (bytesOf l).data.size = _
  rw [bytesOf_data]; simp [u8s]
theorem bt_of (l : List Int) (i : Nat) {x : Int} (h : l[i]? = some x) (h0 : 0 ≤ x) (h1 : x < 256) : bt (bytesOf l) (i : Int) = x := by
  have hi : i < l.length := (List.getElem?_eq_some_iff.1 h).1
  have hx : l[i] = x := (List.getElem?_eq_some_iff.1 h).2
  unfold bt
  have hs : (i : Int).toNat < (bytesOf l).size := by rw [bytesOf_size]; simpa using hi
  rw [dif_pos hs]
  have e : (bytesOf l)[(i : Int).toNat]'hs = UInt8.ofNat x.toNat := by
    show (bytesOf l).data[(i : Int).toNat]'hs = _
    simp [bytesOf_data, u8s, hx]
  rw [e]
  simp
  omega
theorem u8_nat {a : Int} (h0 : 0 ≤ a) (h1 : a < 256) : (UInt8.ofNat a.toNat).toNat = a.toNat := by
  rw [UInt8.toNat_ofNat']; omega
theorem u8_lt {a b : Int} (a0 : 0 ≤ a) (a1 : a < 256) (b0 : 0 ≤ b) (b1 : b < 256) : (decide (UInt8.ofNat a.toNat < UInt8.ofNat b.toNat)) = decide (a < b) := by
  rw [decide_eq_decide, UInt8.lt_iff_toNat_lt, u8_nat a0 a1, u8_nat b0 b1]; omega
theorem u8_beq {a b : Int} (a0 : 0 ≤ a) (a1 : a < 256) (b0 : 0 ≤ b) (b1 : b < 256) : (UInt8.ofNat a.toNat == UInt8.ofNat b.toNat) = decide (a = b) := by
  rw [Bool.eq_iff_iff, beq_iff_eq, decide_eq_true_iff, ← UInt8.toNat_inj, u8_nat a0 a1, u8_nat b0 b1]; omega
theorem mod_step (a : Int) (w : Nat) : a % 256 ^ (w + 1) = (a / 256 ^ w % 256) * 256 ^ w + a % 256 ^ w := by
  have hp : (0 : Int) < 256 ^ w := Int.pow_pos (by decide)
  rw [Int.pow_succ]
  have h1 := Int.emod_add_mul_ediv a (256 ^ w)
  have h2 := Int.emod_add_mul_ediv (a / 256 ^ w) 256
  have h3 := Int.emod_add_mul_ediv a (256 ^ w * 256)
  have h4 : a / (256 ^ w * 256) = a / 256 ^ w / 256 := (Int.ediv_ediv_of_nonneg (Int.le_of_lt hp)).symm
  rw [h4] at h3
  generalize a / 256 ^ w = q at *
  generalize (256 : Int) ^ w = p at *
  have h5 : p * 256 * (q / 256) = p * (256 * (q / 256)) := Int.mul_assoc _ _ _
  have h6 : p * q = p * (q % 256) + p * (256 * (q / 256)) := by rw [← Int.mul_add, h2]
  rw [Int.mul_comm (q % 256) p]
  omega
theorem less_be (n m : Int) : ∀ w, Op.bytesLess (u8s (be n w)) (u8s (be m w)) = decide (n % 256 ^ w < m % 256 ^ w)
  | 0 => by simp [be, u8s, Op.bytesLess, Int.emod_one]
  | w + 1 => by
    have ih := less_be n m w
    have hp : (0 : Int) < 256 ^ w := Int.pow_pos (by decide)
    have na := Int.emod_nonneg (n / 256 ^ w) (show (256 : Int) ≠ 0 by decide)
    have nb := Int.emod_lt_of_pos (n / 256 ^ w) (show (0 : Int) < 256 by decide)
    have ma := Int.emod_nonneg (m / 256 ^ w) (show (256 : Int) ≠ 0 by decide)
    have mb := Int.emod_lt_of_pos (m / 256 ^ w) (show (0 : Int) < 256 by decide)
    have r1 := Int.emod_nonneg n (Int.ne_of_gt hp)
    have r2 := Int.emod_lt_of_pos n hp
    have r3 := Int.emod_nonneg m (Int.ne_of_gt hp)
    have r4 := Int.emod_lt_of_pos m hp
    rw [mod_step n, mod_step m]
    simp only [be, u8s, List.map_cons, Op.bytesLess]
    rw [show List.map (fun n => UInt8.ofNat n.toNat) (be n w) = u8s (be n w) from rfl, show List.map (fun n => UInt8.ofNat n.toNat) (be m w) = u8s (be m w) from rfl, ih]
    generalize n / 256 ^ w % 256 = a at *
    generalize m / 256 ^ w % 256 = b at *
    generalize n % 256 ^ w = r at *
    generalize m % 256 ^ w = q at *
    generalize (256 : Int) ^ w = p at *
    rw [u8_beq na nb ma mb]
    show (decide (UInt8.ofNat a.toNat < UInt8.ofNat b.toNat) || _) = _
    rw [u8_lt na nb ma mb]
    rcases Int.lt_trichotomy a b with h | h | h
    · have h7 : (a + 1) * p ≤ b * p := Int.mul_le_mul_of_nonneg_right (by omega) (by omega)
      rw [Int.add_mul] at h7
      rw [decide_eq_true h, decide_eq_true (show a * p + r < b * p + q by omega)]; rfl
    · subst h
      rw [decide_eq_false (Int.lt_irrefl a), decide_eq_true rfl]
      simp
    · have h7 : (b + 1) * p ≤ a * p := Int.mul_le_mul_of_nonneg_right (by omega) (by omega)
      rw [Int.add_mul] at h7
      rw [decide_eq_false (show ¬ a < b by omega), decide_eq_false (show ¬ a = b by omega), decide_eq_false (show ¬ a * p + r < b * p + q by omega)]; rfl
/-! ### a number out of bytes -/
def vl : Int → List Int → Int
  | v, [] => v
  | v, b :: r => vl (v * 256 + b) r
theorem vl_be (n : Int) : ∀ (w : Nat) (v : Int), vl v (be n w) = v * 256 ^ w + n % 256 ^ w
  | 0, v => by simp [be, vl, Int.emod_one]
  | w + 1, v => by
    simp only [be, vl]
    rw [vl_be n w, mod_step n w, Int.pow_succ, Int.add_mul, Int.mul_assoc, Int.mul_comm 256 (256 ^ w)]
    omega
theorem or_add {v b : Int} (v0 : 0 ≤ v) (v1 : v < 281474976710656) (b0 : 0 ≤ b) (b1 : b < 256) : bitop .or .i64 (shlv .i64 v 8) b = v * 256 + b := by
  have e1 : shlv .i64 v 8 = v * 256 := by
    unfold shlv
    have : min (8 : Int).toNat IntKind.i64.bits = 8 := by decide
    rw [this, IntKind.wrap_i64, show (2 : Int) ^ 8 = 256 by decide]; omega
  rw [e1]
  unfold bitop
  simp only
  have hb : IntKind.i64.bits = 64 := rfl
  have n1 : ∀ x : Int, 0 ≤ x → x < 9223372036854775808 → (BitVec.ofInt IntKind.i64.bits x).toNat = x.toNat := fun x h0 h1 => by
    rw [BitVec.toNat_ofInt, hb]
    have : (2 : Int) ^ 64 = 18446744073709551616 := by decide
    have : ((2 ^ 64 : Nat) : Int) = 18446744073709551616 := by decide
    rw [this, Int.emod_eq_of_lt h0 (by omega)]
  rw [BitVec.toNat_or, n1 _ (by omega) (by omega), n1 _ b0 (by omega)]
  have hv : (v * 256).toNat = v.toNat <<< 8 := by rw [Nat.shiftLeft_eq]; omega
  rw [hv, ← Nat.shiftLeft_add_eq_or_of_lt (show b.toNat < 2 ^ 8 by omega), Nat.shiftLeft_eq, IntKind.wrap_i64]
  omega
theorem get_loop (e0 : Int → Option (Int × Bool)) (k : Nat) (l : List Int) (hl : l.length ≤ 7) (hr : ∀ x ∈ l, 0 ≤ x ∧ x < 256) : ∀ (rest pre : List Int) (j : Nat) (v : Int), rest.length < j → l = pre ++ rest → 0 ≤ v → v < 256 ^ pre.length →
    nums_Get_l1 e0 k (bytesOf l) (l.length : Int) j v (pre.length : Int) = e0 (vl v rest)
  | rest, pre, 0, v, hj, _, _, _ => by omega
  | [], pre, j + 1, v, hj, he, v0, v1 => by
    show nums_Get_l1s _ _ _ _ _ _ _ = _
    unfold nums_Get_l1s
    rw [cond_f (decide_eq_false (by rw [he]; simp))]
    rfl
  | b :: rest, pre, j + 1, v, hj, he, v0, v1 => by
    show nums_Get_l1s _ _ _ _ _ _ _ = _
    unfold nums_Get_l1s
    have hlen : l.length = pre.length + (rest.length + 1) := by rw [he]; simp
    have hb := hr b (by rw [he]; simp)
    have hx : l[pre.length]? = some b := by rw [he]; simp
    rw [cond_t (decide_eq_true (by omega)), sizeI_eq, bytesOf_size, cond_t (by simp; omega), bt_of l pre.length hx hb.1 hb.2]
    have hp : (256 : Int) ^ pre.length ≤ 281474976710656 := by
      have h6 : pre.length ≤ 6 := by omega
      have : (256 : Nat) ^ pre.length ≤ 256 ^ 6 := Nat.pow_le_pow_right (by decide) h6
      have h8 : ((256 ^ pre.length : Nat) : Int) = (256 : Int) ^ pre.length := by simp
      have h9 : (256 : Nat) ^ 6 = 281474976710656 := by decide
      omega
    have hw : wrap64 b = b := w64 (by omega) (by omega)
    have hi : wrap64 ((pre.length : Int) + 1) = (((pre ++ [b]).length : Nat) : Int) := by rw [w64 (by omega) (by omega)]; simp
    rw [hw, or_add v0 (by omega) hb.1 hb.2, hi]
    refine get_loop e0 k l hl hr rest (pre ++ [b]) j (v * 256 + b) (by simp at hj; omega) (by rw [he]; simp) (by omega) ?_
    rw [List.length_append, List.length_singleton, Int.pow_succ]
    omega
theorem get_of (d : Nat) (l : List Int) (h0 : 1 ≤ l.length) (hl : l.length ≤ 7) (hr : ∀ x ∈ l, 0 ≤ x ∧ x < 256) : nums_Get (d + 300) (bytesOf l) = some (vl 0 l, true) := by
  unfold nums_Get
  rw [sizeI_eq, bytesOf_size, cond_f (decide_eq_false (by omega)), decide_eq_false (by omega)]
  show nums_Get_k1 (d + 300) (bytesOf l) = _
  unfold nums_Get_k1
  rw [sizeI_eq, bytesOf_size]
  exact get_loop _ _ l hl hr l [] (d + 300) 0 (by omega) rfl (by omega) (by simp)
theorem shr_eq {n : Int} {t : Int} (h0 : 0 ≤ t) (h1 : t < 64) : shrv .i64 n t = n / (2 ^ t.toNat) := by
  unfold shrv
  have : min t.toNat IntKind.i64.bits = t.toNat := by
    have : IntKind.i64.bits = 64 := rfl
    omega
  rw [this]
theorem u8_mod (x : Int) : IntKind.u8.wrap (x % 256) = IntKind.u8.wrap x := by
  simp [IntKind.wrap, IntKind.signed, IntKind.bits]
def putR (n s : Int) (l : List Int) : Option ByteArray := bif decide (n < 0) then some ⟨#[]⟩ else bif !(decide (shrv .i64 n s = 0)) then some ⟨#[]⟩ else some (bytesOf l)
theorem put_low (d : Nat) (n w : Int) (h : w < 1) : nums_Put (d + 300) n w = some ⟨#[]⟩ := cond_t (decide_eq_true h)
theorem put_high (d : Nat) (n w : Int) (h0 : ¬ w < 1) (h : 7 < w) : nums_Put (d + 300) n w = some ⟨#[]⟩ := (cond_f (decide_eq_false h0)).trans (cond_t (decide_eq_true h))
theorem put_6 (d : Nat) (n : Int) : nums_Put (d + 300) n 6 = putR n 48 [IntKind.u8.wrap (shrv .i64 n 40), IntKind.u8.wrap (shrv .i64 n 32), IntKind.u8.wrap (shrv .i64 n 24), IntKind.u8.wrap (shrv .i64 n 16), IntKind.u8.wrap (shrv .i64 n 8), IntKind.u8.wrap (shrv .i64 n 0)] := by kernel_rfl

theorem pb_6 (d : Nat) (n : Int) (h0 : 0 ≤ n) : nums_Put (d + 300) n 6 = bif decide (n / 256 ^ 6 = 0) then some (bytesOf (be n 6)) else some ⟨#[]⟩ := by
  rw [put_6]
  unfold putR
  rw [decide_eq_false (show ¬ n < 0 by omega)]
  simp only [cond_false, be, u8_wrap]
  simp only [shr_eq (t := 48) (by omega) (by omega), shr_eq (t := 0) (by omega) (by omega), shr_eq (t := 8) (by omega) (by omega), shr_eq (t := 16) (by omega) (by omega), shr_eq (t := 24) (by omega) (by omega), shr_eq (t := 32) (by omega) (by omega), shr_eq (t := 40) (by omega) (by omega)]
  simp only [show (2 : Int) ^ Int.toNat 0 = 1 from by decide, show (2 : Int) ^ Int.toNat 8 = 256 from by decide, show (2 : Int) ^ Int.toNat 16 = 65536 from by decide, show (2 : Int) ^ Int.toNat 24 = 16777216 from by decide, show (2 : Int) ^ Int.toNat 32 = 4294967296 from by decide, show (2 : Int) ^ Int.toNat 40 = 1099511627776 from by decide, show (2 : Int) ^ Int.toNat 48 = 281474976710656 from by decide]
  simp only [show (256 : Int) ^ 0 = 1 from by decide, show (256 : Int) ^ 1 = 256 from by decide, show (256 : Int) ^ 2 = 65536 from by decide, show (256 : Int) ^ 3 = 16777216 from by decide, show (256 : Int) ^ 4 = 4294967296 from by decide, show (256 : Int) ^ 5 = 1099511627776 from by decide, show (256 : Int) ^ 6 = 281474976710656 from by decide]
  cases decide (n / 281474976710656 = 0) <;> rfl
abbrev B := BitVec 32
def poly : B := 0x82f63b78#32
def s1 (c : B) : B := (c >>> 1) ^^^ (if c.getLsbD 0 then poly else 0#32)
theorem s1_xor (a b : B) : s1 (a ^^^ b) = s1 a ^^^ s1 b := by
  unfold s1
  rw [BitVec.ushiftRight_xor_distrib, BitVec.getLsbD_xor]
  cases a.getLsbD 0 <;> cases b.getLsbD 0 <;> simp
  · rw [BitVec.xor_assoc]
  · rw [BitVec.xor_assoc, BitVec.xor_assoc, BitVec.xor_comm poly]
  · rw [BitVec.xor_assoc (a >>> 1), BitVec.xor_comm poly, BitVec.xor_assoc (b >>> 1), BitVec.xor_self]; simp
theorem s1_zero : s1 0#32 = 0#32 := by decide
theorem s1_eq_zero {x : B} (h : s1 x = 0#32) : x = 0#32 := by
  unfold s1 at h
  cases hb : x.getLsbD 0 with
  | true =>
    exfalso
    rw [hb] at h
    have h31 := congrArg (fun z : B => z.getLsbD 31) h
    simp [poly] at h31
  | false =>
    rw [hb] at h
    simp at h
    apply BitVec.eq_of_getLsbD_eq
    intro i hi
    simp
    cases i with
    | zero => exact hb
    | succ i =>
      have := congrArg (fun z : B => z.getLsbD i) h
      simpa [Nat.add_comm] using this
theorem s1_inj {a b : B} (h : s1 a = s1 b) : a = b := by
  have : s1 (a ^^^ b) = 0#32 := by rw [s1_xor, h, BitVec.xor_self]
  have := s1_eq_zero this
  exact BitVec.xor_eq_zero_iff.1 this
def s8 (c : B) : B := s1 (s1 (s1 (s1 (s1 (s1 (s1 (s1 c)))))))
theorem s8_xor (a b : B) : s8 (a ^^^ b) = s8 a ^^^ s8 b := by simp only [s8, s1_xor]
theorem s8_zero : s8 0#32 = 0#32 := by decide
theorem s8_inj {a b : B} (h : s8 a = s8 b) : a = b := by unfold s8 at h; exact s1_inj (s1_inj (s1_inj (s1_inj (s1_inj (s1_inj (s1_inj (s1_inj h)))))))
theorem s8_ne {a : B} (h : a ≠ 0#32) : s8 a ≠ 0#32 := fun e => h (s8_inj (e.trans s8_zero.symm))
def s4 (c : B) : B := s1 (s1 (s1 (s1 c)))
theorem s4_xor (a b : B) : s4 (a ^^^ b) = s4 a ^^^ s4 b := by simp only [s4, s1_xor]
def nibB : List B := [0x00000000, 0x105ec76f, 0x20bd8ede, 0x30e349b1, 0x417b1dbc, 0x5125dad3, 0x61c69362, 0x7198540d, 0x82f63b78, 0x92a8fc17, 0xa24bb5a6, 0xb21572c9, 0xc38d26c4, 0xd3d3e1ab, 0xe330a81a, 0xf36e6f75]
theorem nib_all : ∀ i : Fin 16, s4 (BitVec.ofNat 32 i.val) = nibB.getD i.val 0 := by decide
theorem s1_shl (x : B) (h : x.getLsbD 31 = false) : s1 (x <<< 1) = x := by
  unfold s1
  apply BitVec.eq_of_getLsbD_eq
  intro i hi
  by_cases hi' : i = 31
  · subst hi'; rw [h]; simp
  · have : i < 31 := by omega
    simp [Nat.add_comm]; omega
theorem s4_shl (x : B) (h : ∀ i, 28 ≤ i → x.getLsbD i = false) : s4 (x <<< 4) = x := by
  have e : x <<< 4 = (((x <<< 1) <<< 1) <<< 1) <<< 1 := by simp only [← BitVec.shiftLeft_add]
  have h31 : x[31] = false := h 31 (by omega)
  have h30 : x[30] = false := h 30 (by omega)
  have h29 : x[29] = false := h 29 (by omega)
  have h28 : x[28] = false := h 28 (by omega)
  rw [e]; unfold s4
  rw [s1_shl, s1_shl, s1_shl, s1_shl] <;> simp [h31, h30, h29, h28]
theorem split4 (c : B) : c = ((c >>> 4) <<< 4) ^^^ (c &&& 15#32) := by
  apply BitVec.eq_of_getLsbD_eq
  intro i hi
  have e15 : (15#32 : B) = BitVec.ofNat 32 (2^4 - 1) := rfl
  have hh : (15#32 : B).getLsbD i = decide (i < 4) := by
    rw [e15, BitVec.getLsbD_ofNat, Nat.testBit_two_pow_sub_one]; simp; omega
  rw [BitVec.getLsbD_xor, BitVec.getLsbD_and, hh]
  by_cases h4 : i < 4
  · simp [h4]
  · simp [h4, hi, show 4 + (i - 4) = i by omega]
theorem and15B (c : B) : ∃ i : Fin 16, c &&& 15#32 = BitVec.ofNat 32 i.val ∧ i.val = c.toNat % 16 := by
  refine ⟨⟨c.toNat % 16, by omega⟩, ?_, rfl⟩
  apply BitVec.eq_of_toNat_eq
  simp
  have := Nat.and_two_pow_sub_one_eq_mod c.toNat 4
  simp at this; rw [this]; omega
theorem nib_step (c : B) : (c >>> 4) ^^^ nibB.getD (c.toNat % 16) 0 = s4 c := by
  obtain ⟨i, h1, h2⟩ := and15B c
  have hn := nib_all i
  have hs : s4 c = s4 (((c >>> 4) <<< 4) ^^^ (c &&& 15#32)) := congrArg s4 (split4 c)
  rw [hs, s4_xor, s4_shl, h1, hn, h2]
  intro i hi; rw [BitVec.getLsbD_ushiftRight]; exact BitVec.getLsbD_of_ge _ _ (by omega)
/-! ### the register as a number -/
def I (c : B) : Int := (c.toNat : Int)
theorem I_inj {a b : B} (h : I a = I b) : a = b := by unfold I at h; exact BitVec.eq_of_toNat_eq (by omega)
theorem I_range (a : B) : 0 ≤ I a ∧ I a ≤ 4294967295 := by unfold I; have := a.isLt; omega
theorem I_of {x : Int} (h0 : 0 ≤ x) (h1 : x ≤ 4294967295) : x = I (BitVec.ofInt 32 x) := by
  unfold I; rw [BitVec.toNat_ofInt]; omega
theorem ofI (a : B) : BitVec.ofInt IntKind.u32.bits (I a) = a := by
  unfold I
  apply BitVec.eq_of_toNat_eq
  rw [BitVec.ofInt_natCast]
  show (BitVec.ofNat 32 a.toNat).toNat = _
  rw [BitVec.toNat_ofNat]; exact Nat.mod_eq_of_lt a.isLt
theorem wrap_I (a : B) : IntKind.u32.wrap ((a.toNat : Nat) : Int) = I a := by
  have := a.isLt
  unfold IntKind.wrap I
  simp [IntKind.signed, IntKind.bits]; omega
theorem I_xor (a b : B) : bitop .xor .u32 (I a) (I b) = I (a ^^^ b) := by
  unfold bitop
  simp only [ofI]
  exact wrap_I (a ^^^ b)
theorem I_and15 (c : B) : bitop .and .u32 (I c) 15 = ((c.toNat % 16 : Nat) : Int) := by
  unfold bitop
  simp only [ofI]
  show IntKind.u32.wrap (((c &&& 15#32).toNat : Nat) : Int) = _
  rw [wrap_I]
  unfold I
  congr 1
  rw [BitVec.toNat_and]
  exact Nat.and_two_pow_sub_one_eq_mod c.toNat 4
theorem I_shr4 (c : B) : shrv .u32 (I c) 4 = I (c >>> 4) := by
  unfold shrv I
  rw [BitVec.toNat_ushiftRight, Nat.shiftRight_eq_div_pow, show min (4 : Int).toNat IntKind.u32.bits = 4 by decide]
  simp
def nibI : Nat → Int
  | 0 => 0 | 1 => 274646895 | 2 => 549293790 | 3 => 820201905 | 4 => 1098587580 | 5 => 1361435347 | 6 => 1640403810 | 7 => 1905808397
  | 8 => 2197175160 | 9 => 2460548119 | 10 => 2722870694 | 11 => 2987750089 | 12 => 3280807620 | 13 => 3553878443 | 14 => 3811616794 | _ => 4084100981
theorem nib_eq : ∀ i : Fin 16, nibI i.val = I (nibB.getD i.val 0) := by decide
theorem half_I (c : B) : bitop .xor .u32 (shrv .u32 (I c) 4) (nibI (c.toNat % 16)) = I (s4 c) := by
  rw [I_shr4]
  have := nib_eq ⟨c.toNat % 16, by omega⟩
  simp only at this
  rw [this, I_xor, nib_step]
theorem step_go {R : Type} (rc : Int → Int → Option R) (e0 : Int → Option R) (k : Nat) (c : B) (v : Int) (hv : v < 2) : crc_step_l0s rc e0 k (I c) v = rc (I (s4 c)) (wrap64 (v + 1)) := by
  unfold crc_step_l0s
  rw [cond_t (decide_eq_true hv), I_and15]
  have key := half_I c
  have h16 : c.toNat % 16 < 16 := by omega
  generalize c.toNat % 16 = i at *
  obtain rfl | rfl | rfl | rfl | rfl | rfl | rfl | rfl | rfl | rfl | rfl | rfl | rfl | rfl | rfl | rfl : i = 0 ∨ i = 1 ∨ i = 2 ∨ i = 3 ∨ i = 4 ∨ i = 5 ∨ i = 6 ∨ i = 7 ∨ i = 8 ∨ i = 9 ∨ i = 10 ∨ i = 11 ∨ i = 12 ∨ i = 13 ∨ i = 14 ∨ i = 15 := by omega
  all_goals exact congrArg (fun z => rc z (wrap64 (v + 1))) key
theorem step_end {R : Type} (rc : Int → Int → Option R) (e0 : Int → Option R) (k : Nat) (c : Int) (v : Int) (hv : ¬ v < 2) : crc_step_l0s rc e0 k c v = e0 c := by
  unfold crc_step_l0s
  rw [cond_f (decide_eq_false hv)]
theorem step_I (d : Nat) (c : B) : crc_step (d + 300) (I c) = some (I (s8 c)) := by
  unfold crc_step
  show crc_step_l0s (crc_step_l0 _ _ (d + 299)) _ _ _ _ = _
  rw [step_go _ _ _ _ _ (by decide), w64 (by decide) (by decide)]
  show crc_step_l0s (crc_step_l0 _ _ (d + 298)) _ _ _ _ = _
  rw [step_go _ _ _ _ _ (by decide), w64 (by decide) (by decide)]
  show crc_step_l0s (crc_step_l0 _ _ (d + 297)) _ _ _ _ = _
  rw [step_end _ _ _ _ _ (by decide)]
  rfl
def s8n : Nat → B → B
  | 0, c => c
  | n + 1, c => s8n n (s8 c)
theorem s8n_add (m : Nat) : ∀ (n : Nat) (c : B), s8n (m + n) c = s8n n (s8n m c) := by
  induction m with
  | zero => intro n c; simp [s8n]
  | succ m ih => intro n c; rw [show m + 1 + n = (m + n) + 1 by omega]; simp only [s8n]; rw [ih]
theorem s8n_xor (m : Nat) : ∀ a b : B, s8n m (a ^^^ b) = s8n m a ^^^ s8n m b := by
  induction m with
  | zero => intro a b; rfl
  | succ m ih => intro a b; simp only [s8n, s8_xor, ih]
theorem s8n_zero (m : Nat) : s8n m 0#32 = 0#32 := by
  induction m with
  | zero => rfl
  | succ m ih => simp only [s8n, s8_zero, ih]
theorem s8n_inj (m : Nat) : ∀ {a b : B}, s8n m a = s8n m b → a = b := by
  induction m with
  | zero => intro a b h; exact h
  | succ m ih => intro a b h; exact s8_inj (ih h)
/-! ### the sum over bytes -/
def upd (c : B) (l : List UInt8) : B := l.foldl (fun c b => s8 (c ^^^ BitVec.ofNat 32 b.toNat)) c
def updAll (c : B) (ps : List ByteArray) : B := ps.foldl (fun c p => upd c p.data.toList) c
def total (ps : List ByteArray) : Nat := (ps.map fun p => p.size).sum
def ones : B := 4294967295#32
theorem upd_append (c : B) (a b : List UInt8) : upd c (a ++ b) = upd (upd c a) b := by unfold upd; rw [List.foldl_append]
theorem upd_xor (l : List UInt8) : ∀ c x : B, upd (c ^^^ x) l = upd c l ^^^ s8n l.length x := by
  induction l with
  | nil => intro c x; rfl
  | cons b l ih =>
    intro c x
    show upd (s8 ((c ^^^ x) ^^^ BitVec.ofNat 32 b.toNat)) l = upd (s8 (c ^^^ BitVec.ofNat 32 b.toNat)) l ^^^ s8n l.length (s8 x)
    rw [show (c ^^^ x) ^^^ BitVec.ofNat 32 b.toNat = (c ^^^ BitVec.ofNat 32 b.toNat) ^^^ x by rw [BitVec.xor_assoc, BitVec.xor_comm x, ← BitVec.xor_assoc], s8_xor, ih]
theorem bt_drop (s : ByteArray) (i : Nat) (b : UInt8) (l : List UInt8) (h : s.data.toList.drop i = b :: l) : bt s i = (b.toNat : Int) ∧ i < s.size ∧ s.data.toList.drop (i + 1) = l := by
  have hi : i < s.data.toList.length := by
    rcases Nat.lt_or_ge i s.data.toList.length with h1 | h1
    · exact h1
    · rw [List.drop_eq_nil_of_le h1] at h; cases h
  rw [List.drop_eq_getElem_cons hi] at h
  injection h with h1 h2
  have hs : i < s.size := by simpa using hi
  refine ⟨?_, hs, h2⟩
  unfold bt
  rw [dif_pos (show (i : Int).toNat < s.size by simpa using hs), ← h1]
  rfl
theorem sum_l1 {R : Type} (e0 : Int → Option R) (d : Nat) (s : ByteArray) (hs : s.size ≤ 1099511627776) (l : List UInt8) : ∀ (i : Nat) (j : Nat) (c : B), s.data.toList.drop i = l → l.length < j →
    crc_Sum_l1 e0 (d + 300) s (sizeI s) j (I c) i = e0 (I (upd c l)) := by
  induction l with
  | nil =>
    intro i j c hd hj
    obtain ⟨j, rfl⟩ : ∃ u, j = u + 1 := ⟨j - 1, by omega⟩
    have : s.data.toList.length ≤ i := List.drop_eq_nil_iff.1 hd
    have hl : s.data.toList.length = s.size := by simp
    show crc_Sum_l1s _ _ _ _ _ _ _ = _
    unfold crc_Sum_l1s
    rw [cond_f (decide_eq_false (by rw [sizeI_eq]; omega))]
    rfl
  | cons b l ih =>
    intro i j c hd hj
    rw [List.length_cons] at hj
    obtain ⟨j, rfl⟩ : ∃ u, j = u + 1 := ⟨j - 1, by omega⟩
    obtain ⟨h1, h2, h3⟩ := bt_drop s i b l hd
    have hb := b.toNat_lt
    show crc_Sum_l1s _ _ _ _ _ _ _ = _
    unfold crc_Sum_l1s
    rw [cond_t (decide_eq_true (by rw [sizeI_eq]; omega)), cond_t (by rw [sizeI_eq]; simp; omega), h1, show IntKind.u32.wrap (b.toNat : Int) = I (BitVec.ofNat 32 b.toNat) by
      unfold IntKind.wrap I; rw [BitVec.toNat_ofNat]; simp [IntKind.signed, IntKind.bits]; omega, I_xor, step_I, optb_some, w64 (by omega) (by omega), show (i : Int) + 1 = ((i + 1 : Nat) : Int) by omega]
    exact ih (i + 1) j _ h3 (by omega)
theorem sum_l0 (d : Nat) (L : List ByteArray) (hL : L.length ≤ 1099511627776) (hz : ∀ p ∈ L, p.size ≤ 1099511627776 ∧ p.size < d + 300) (ps : List ByteArray) : ∀ (i j : Nat) (c : B), L.drop i = ps → ps.length < j →
    crc_Sum_l0 (fun c => some (bitop .xor .u32 4294967295 c)) (d + 300) L (lenI L) j (I c) i = some (I (ones ^^^ updAll c ps)) := by
  induction ps with
  | nil =>
    intro i j c hd hj
    obtain ⟨j, rfl⟩ : ∃ u, j = u + 1 := ⟨j - 1, by omega⟩
    have : L.length ≤ i := List.drop_eq_nil_iff.1 hd
    show crc_Sum_l0s _ _ _ _ _ _ _ = _
    unfold crc_Sum_l0s
    rw [cond_f (decide_eq_false (by rw [lenI_eq]; omega))]
    exact congrArg some (I_xor ones c)
  | cons p ps ih =>
    intro i j c hd hj
    rw [List.length_cons] at hj
    obtain ⟨j, rfl⟩ : ∃ u, j = u + 1 := ⟨j - 1, by omega⟩
    have hi : i < L.length := by
      rcases Nat.lt_or_ge i L.length with h1 | h1
      · exact h1
      · rw [List.drop_eq_nil_of_le h1] at hd; cases hd
    have hd' := hd
    rw [List.drop_eq_getElem_cons hi] at hd'
    injection hd' with h1 h2
    have hp := hz p (h1 ▸ List.getElem_mem hi)
    show crc_Sum_l0s _ _ _ _ _ _ _ = _
    unfold crc_Sum_l0s
    rw [cond_t (decide_eq_true (by rw [lenI_eq]; omega)), cond_t (decide_eq_true (by omega)), show (i : Int).toNat = i from rfl, List.getElem?_eq_getElem hi, h1, optb_some]
    refine (sum_l1 _ d p hp.1 p.data.toList 0 (d + 300) c rfl (by simp; omega)).trans ?_
    rw [w64 (by omega) (by omega), show (i : Int) + 1 = ((i + 1 : Nat) : Int) by omega]
    exact ih (i + 1) j _ h2 (by omega)
theorem sum_eq (d : Nat) (b : Bool) (L : List ByteArray) (hL : L.length < d + 300) (hL' : L.length ≤ 1099511627776) (hz : ∀ p ∈ L, p.size ≤ 1099511627776 ∧ p.size < d + 300) : crc_Sum (d + 300) b L = some (I (ones ^^^ updAll ones L)) :=
  sum_l0 d L hL' hz L 0 (d + 300) ones rfl hL
/-! ### a byte turned -/
theorem turn_l0 (d n : Nat) (hn : n ≤ 65536) (m : Nat) : ∀ (j i : Nat) (c : B), n - i = m → i ≤ n → m < j → crc_Turn_l1 (fun c => some c) (d + 300) (n : Int) j (I c) i = some (I (s8n m c)) := by
  induction m with
  | zero =>
    intro j i c hm hi hj
    obtain ⟨j, rfl⟩ : ∃ u, j = u + 1 := ⟨j - 1, by omega⟩
    show crc_Turn_l1s _ _ _ _ _ _ = _
    unfold crc_Turn_l1s
    rw [cond_f (decide_eq_false (by omega))]; rfl
  | succ m ih =>
    intro j i c hm hi hj
    obtain ⟨j, rfl⟩ : ∃ u, j = u + 1 := ⟨j - 1, by omega⟩
    show crc_Turn_l1s _ _ _ _ _ _ = _
    unfold crc_Turn_l1s
    rw [cond_t (decide_eq_true (by omega)), step_I, optb_some, w64 (by omega) (by omega), show (i : Int) + 1 = ((i + 1 : Nat) : Int) by omega]
    exact ih j (i + 1) (s8 c) (by omega) (by omega) (by omega)
theorem turn_eq (d : Nat) {n : Nat} {x : Int} (h1 : n ≤ 65536) (hd : n < d + 300) (x0 : 0 ≤ x) (x1 : x ≤ 255) : crc_Turn (d + 300) (n : Int) x = some (I (s8n (n + 1) (BitVec.ofInt 32 x))) := by
  unfold crc_Turn
  rw [cond_f (decide_eq_false (by omega)), decide_eq_false (by omega)]
  show crc_Turn_k1 _ _ _ = _
  unfold crc_Turn_k1
  rw [show IntKind.u32.wrap x = I (BitVec.ofInt 32 x) from by rw [← I_of x0 (by omega)]; unfold IntKind.wrap; simp [IntKind.signed, IntKind.bits]; omega, step_I, optb_some]
  exact turn_l0 d n h1 n (d + 300) 0 _ (by omega) (by omega) hd
theorem sumsOk (d : Nat) : corbeltop_sums (d + 300) = some true := by kernel_rfl
/-! ### numbers laid one behind the other -/
def encb (l : List Int) : List Int := l.flatMap fun x => be (x % 1099511627776) 6
theorem encb_cons (x : Int) (l : List Int) : encb (x :: l) = be (x % 1099511627776) 6 ++ encb l := by unfold encb; rw [List.flatMap_cons]
theorem encb_append (a b : List Int) : encb (a ++ b) = encb a ++ encb b := by unfold encb; rw [List.flatMap_append]
theorem encb_len (l : List Int) : (encb l).length = 6 * l.length := by
  induction l with
  | nil => rfl
  | cons x l ih => rw [encb_cons, List.length_append, ih, be_length, List.length_cons]; omega
theorem mask40 (x : Int) : bitop .and .i64 x 1099511627775 = x % 1099511627776 := by
  have h := and_mask x 40 (by decide)
  rw [show (2 : Int) ^ 40 = 1099511627776 by decide] at h
  exact h
theorem put_enc (d : Nat) (x : Int) : nums_Put (d + 300) (x % 1099511627776) 6 = some (bytesOf (be (x % 1099511627776) 6)) := by
  rw [pb_6 d _ (by omega), show (256 : Int) ^ 6 = 281474976710656 by decide, cond_t (decide_eq_true (by omega))]
theorem get_enc (d : Nat) (x : Int) : nums_Get (d + 300) (bytesOf (be (x % 1099511627776) 6)) = some (x % 1099511627776, true) := by
  rw [get_of d _ (by rw [be_length]; decide) (by rw [be_length]; decide) (be_range _ 6), vl_be, Int.zero_mul, Int.zero_add, show (256 : Int) ^ 6 = 281474976710656 by decide, Int.emod_eq_of_lt (a := x % 1099511627776) (by omega) (by omega)]
theorem fill {R : Type} (e0 : ByteArray → Option R) (d : Nat) (L : List Int) : ∀ (n j i : Nat), min L.length 200 - i = n → i ≤ min L.length 200 → n < j →
    corbeltop_TopSealed_l0 e0 (d + 300) L j (bytesOf (encb (L.take i))) i = e0 (bytesOf (encb (L.take 200))) := by
  intro n
  induction n with
  | zero =>
    intro j i hn hi hj
    obtain ⟨j, rfl⟩ : ∃ u, j = u + 1 := ⟨j - 1, by omega⟩
    show corbeltop_TopSealed_l0s _ _ _ _ _ _ = _
    unfold corbeltop_TopSealed_l0s
    rw [lenI_eq]
    by_cases h : (i : Int) < L.length
    · rw [cond_t (decide_eq_true h), cond_f (decide_eq_false (by omega)), show i = 200 by omega]
    · rw [cond_f (decide_eq_false h), List.take_of_length_le (show L.length ≤ i by omega), List.take_of_length_le (show L.length ≤ 200 by omega)]
  | succ n ih =>
    intro j i hn hi hj
    obtain ⟨j, rfl⟩ : ∃ u, j = u + 1 := ⟨j - 1, by omega⟩
    have hlt : i < L.length := by omega
    show corbeltop_TopSealed_l0s _ _ _ _ _ _ = _
    unfold corbeltop_TopSealed_l0s
    have ht : L.take (i + 1) = L.take i ++ [L[i]] := by rw [List.take_add_one, List.getElem?_eq_getElem hlt]; rfl
    have he : bytesOf (encb (L.take i)) ++ bytesOf (be (L[i] % 1099511627776) 6) = bytesOf (encb (L.take (i + 1))) := by
      rw [bytesOf_append, ht, encb_append, encb_cons]
      show _ = bytesOf (encb (L.take i) ++ (_ ++ []))
      rw [List.append_nil]
    rw [lenI_eq, cond_t (decide_eq_true (by omega)), cond_t (decide_eq_true (by omega)), cond_t (decide_eq_true (by omega)), show (i : Int).toNat = i from rfl, List.getElem?_eq_getElem hlt, optb_some, mask40, put_enc, optb_some, he,
      cond_t (decide_eq_true (by rw [bytesOf_size, bytesOf_size, encb_len, be_length, List.length_take]; omega)), w64 (by omega) (by omega), show (i : Int) + 1 = ((i + 1 : Nat) : Int) by omega]
    exact ih j (i + 1) (by omega) (by omega) (by omega)
theorem bytesOf_extract (l : List Int) (a b : Nat) : (bytesOf l).extract a b = bytesOf ((l.drop a).take (b - a)) := by
  apply ByteArray.ext
  rw [ByteArray.data_extract]
  apply Array.toList_inj.1
  rw [Array.toList_extract, bytesOf_data, bytesOf_data]
  simp [u8s, List.extract_eq_take_drop, List.map_drop, List.map_take]
theorem check {R : Type} (e0 : Bool → Option R) (e1 : Option R) (d : Nat) (L P rest : List Int) (hL : L = P ++ rest) (hP : P.length ≤ 200) : ∀ (n j i : Nat), P.length - i = n → i ≤ P.length → n < j →
    corbeltop_TopSealed_l1 e0 e1 (d + 300) L (bytesOf (encb P)) j i = e1 := by
  intro n
  induction n with
  | zero =>
    intro j i hn hi hj
    obtain ⟨j, rfl⟩ : ∃ u, j = u + 1 := ⟨j - 1, by omega⟩
    show corbeltop_TopSealed_l1s _ _ _ _ _ _ _ = _
    unfold corbeltop_TopSealed_l1s
    rw [sizeI_eq, bytesOf_size, encb_len, w64 (by omega) (by omega), cond_f (decide_eq_false (by omega))]
  | succ n ih =>
    intro j i hn hi hj
    obtain ⟨j, rfl⟩ : ∃ u, j = u + 1 := ⟨j - 1, by omega⟩
    have hlt : i < P.length := by omega
    show corbeltop_TopSealed_l1s _ _ _ _ _ _ _ = _
    unfold corbeltop_TopSealed_l1s
    have hd : ((encb P).drop (6 * i)).take (6 * i + 6 - 6 * i) = be (P[i] % 1099511627776) 6 := by
      have h1 : encb P = encb (P.take i) ++ encb (P.drop i) := by rw [← encb_append, List.take_append_drop]
      have h2 : (encb (P.take i)).length = 6 * i := by rw [encb_len, List.length_take, Nat.min_eq_left hi]
      rw [h1, List.drop_left' h2, List.drop_eq_getElem_cons hlt, encb_cons]
      exact List.take_left' (by rw [be_length]; omega)
    have hx : L[i]? = some P[i] := by rw [hL, List.getElem?_append_left hlt, List.getElem?_eq_getElem hlt]
    rw [sizeI_eq, bytesOf_size, encb_len, w64 (by omega) (by omega)]
    simp only []
    rw [w64 (by omega) (by omega), cond_t (decide_eq_true (by omega)), decide_eq_true (show (0 : Int) ≤ 6 * i by omega), decide_eq_true (show (6 * i : Int) ≤ 6 * i + 6 by omega), decide_eq_true (show (6 * i + 6 : Int) ≤ ((6 * P.length : Nat) : Int) by omega), Bool.and_self, Bool.and_self, cond_true,
      bytesOf_extract, show (6 * (i : Int)).toNat = 6 * i by omega, show (6 * (i : Int) + 6).toNat = 6 * i + 6 by omega, hd, get_enc, optb_some]
    simp only []
    rw [Bool.not_true, cond_false, cond_t (decide_eq_true (by omega)), show (i : Int).toNat = i from rfl, hx, optb_some, mask40, decide_eq_true rfl]
    show corbeltop_TopSealed_l1 _ _ _ _ _ j (wrap64 ((i : Int) + 1)) = _
    rw [w64 (by omega) (by omega), show (i : Int) + 1 = ((i + 1 : Nat) : Int) by omega]
    exact ih j (i + 1) (by omega) (by omega) (by omega)
/-! ### the two last laws -/
theorem sum_one (d : Nat) (s : ByteArray) (h : s.size ≤ 1200) : crc_Sum (2000 + d + 300) false [s] = some (I (ones ^^^ upd ones s.data.toList)) := by
  rw [sum_eq (2000 + d) false [s] (by simp) (by simp) (fun p hp => by rw [List.mem_singleton.1 hp]; omega)]; rfl
theorem sum_two (d : Nat) (s : ByteArray) (h : s.size ≤ 1200) : crc_Sum (2000 + d + 300) false [s, ⟨#[]⟩] = some (I (ones ^^^ upd ones s.data.toList)) := by
  have he : (⟨#[]⟩ : ByteArray).size = 0 := rfl
  rw [sum_eq (2000 + d) false [s, ⟨#[]⟩] (by simp) (by simp) (fun p hp => by
    rcases List.mem_cons.1 hp with rfl | hp
    · omega
    · rw [List.mem_singleton.1 hp, he]; omega)]; rfl
theorem j3_true (d : Nat) (s : ByteArray) (h : s.size ≤ 1200) (e1 : Option Bool) : corbeltop_TopSealed_j3 (corbeltop_TopSealed_k2 (2000 + d + 300)) e1 (2000 + d + 300) s true = some true := by
  unfold corbeltop_TopSealed_j3
  rw [cond_true, sum_two d s h, sum_one d s h, optb_some, optb_some, decide_eq_true rfl]; rfl
theorem turned (l : List UInt8) (i : Nat) (hi : i < l.length) (y : Nat) (hy : y < 256) (c : B) :
    upd c (l.set i (UInt8.ofNat (l[i].toNat ^^^ y))) = upd c l ^^^ s8n (l.length - 1 - i + 1) (BitVec.ofNat 32 y) := by
  have hb := l[i].toNat_lt
  have hx : l[i].toNat ^^^ y < 2 ^ 8 := Nat.xor_lt_two_pow hb hy
  have hu : (UInt8.ofNat (l[i].toNat ^^^ y)).toNat = l[i].toNat ^^^ y := by rw [UInt8.toNat_ofNat']; omega
  have hv : BitVec.ofNat 32 (l[i].toNat ^^^ y) = BitVec.ofNat 32 l[i].toNat ^^^ BitVec.ofNat 32 y := by
    apply BitVec.eq_of_toNat_eq
    rw [BitVec.toNat_xor, BitVec.toNat_ofNat, BitVec.toNat_ofNat, BitVec.toNat_ofNat, Nat.mod_eq_of_lt (by omega), Nat.mod_eq_of_lt (by omega), Nat.mod_eq_of_lt (by omega)]
  have hl : l = l.take i ++ l[i] :: l.drop (i + 1) := by rw [← List.drop_eq_getElem_cons hi, List.take_append_drop]
  rw [List.set_eq_take_append_cons_drop, if_pos hi, upd_append]
  conv => rhs; rw [hl]
  rw [upd_append]
  show upd (s8 (upd c (l.take i) ^^^ BitVec.ofNat 32 (UInt8.ofNat (l[i].toNat ^^^ y)).toNat)) (l.drop (i + 1)) = upd (s8 (upd c (l.take i) ^^^ BitVec.ofNat 32 l[i].toNat)) (l.drop (i + 1)) ^^^ _
  rw [hu, hv, ← BitVec.xor_assoc, s8_xor, upd_xor]
  congr 1
  have : (l.take i ++ l[i] :: l.drop (i + 1)).length = l.length := by rw [← hl]
  rw [this, List.length_drop]
  show _ = s8n (l.length - 1 - i) (s8 _)
  rw [show l.length - (i + 1) = l.length - 1 - i by omega]
theorem xor_u8 (a y : Nat) (ha : a < 256) (hy : y < 256) : bitop .xor .u8 (a : Int) (y : Int) = ((a ^^^ y : Nat) : Int) := by
  have hx : a ^^^ y < 2 ^ 8 := Nat.xor_lt_two_pow ha hy
  unfold bitop
  simp only [BitVec.ofInt_natCast]
  rw [u8_wrap, BitVec.toNat_xor, BitVec.toNat_ofNat, BitVec.toNat_ofNat, show IntKind.u8.bits = 8 from rfl, Nat.mod_eq_of_lt (show a < 2 ^ 8 by omega), Nat.mod_eq_of_lt (show y < 2 ^ 8 by omega)]
  omega
theorem intsOf_len (s : ByteArray) : (intsOf s).length = s.size := by unfold intsOf; simp
theorem bytes_set (s : ByteArray) (i : Nat) (v : Int) : (bytesOf (List.set (intsOf s) i v)).data.toList = s.data.toList.set i (UInt8.ofNat v.toNat) := by
  rw [bytesOf_data, List.toList_toArray]
  unfold u8s intsOf
  rw [List.map_set, List.map_map]
  congr 1
  apply List.ext_getElem?
  intro n
  rw [List.getElem?_map]
  cases s.data.toList[n]? with
  | none => rfl
  | some b => simp
theorem k3_true (d : Nat) (s : ByteArray) (h0 : 0 < s.size) (h1 : s.size ≤ 1200) (a : Int) (y : Nat) (y0 : 1 ≤ y) (y1 : y < 256) : corbeltop_TopSealed_k3 (2000 + d + 300) a (y : Int) s = some true := by
  have p1 := Int.tmod_lt_of_pos a (show (0 : Int) < s.size by omega)
  have p2 := Int.lt_tmod_of_pos a (show (0 : Int) < s.size by omega)
  unfold corbeltop_TopSealed_k3
  rw [sizeI_eq, cond_f (decide_eq_false (by omega)), w64 (by omega) (by omega), cond_f (decide_eq_false (by omega)), cond_t (decide_eq_true (by omega)), tmod_pos (show 0 ≤ a.tmod s.size + s.size by omega)]
  have m0 := Int.emod_nonneg (a.tmod s.size + s.size) (show (s.size : Int) ≠ 0 by omega)
  have m1 := Int.emod_lt_of_pos (a.tmod s.size + s.size) (show (0 : Int) < s.size by omega)
  obtain ⟨m, hm⟩ := Int.eq_ofNat_of_zero_le m0
  rw [hm] at m1 ⊢
  have hml : m < s.data.toList.length := by rw [show s.data.toList.length = s.size by simp]; omega
  have hi : (intsOf s)[m]? = some ((s.data.toList[m]'hml).toNat : Int) := by
    unfold intsOf
    rw [List.getElem?_map, List.getElem?_eq_getElem hml]; rfl
  have hb := (s.data.toList[m]'hml).toNat_lt
  rw [lenI_eq, intsOf_len, decide_eq_true (show (0 : Int) ≤ (m : Int) by omega), decide_eq_true m1, Bool.and_self, cond_true, show (m : Int).toNat = m from rfl, hi, optb_some, optb_some, cond_true, xor_u8 _ _ hb y1]
  have hz : (bytesOf (List.set (intsOf s) m (((s.data.toList[m]'hml).toNat ^^^ y : Nat) : Int))).size ≤ 1200 := by rw [bytesOf_size, List.length_set, intsOf_len]; exact h1
  have hlen : s.data.toList.length = s.size := by simp
  simp only []
  rw [sum_one d _ hz, sum_one d s h1, optb_some, optb_some, bytes_set, show ((((s.data.toList[m]'hml).toNat ^^^ y : Nat) : Int)).toNat = (s.data.toList[m]'hml).toNat ^^^ y from rfl, turned _ m hml y y1]
  have hy : (BitVec.ofInt 32 (y : Int)) = BitVec.ofNat 32 y := BitVec.ofInt_natCast ..
  have hyn : BitVec.ofNat 32 y ≠ 0#32 := fun h => by
    have h2 := congrArg BitVec.toNat h
    rw [BitVec.toNat_ofNat] at h2
    have : (0#32 : B).toNat = 0 := rfl
    omega
  have hT : s8n (s.data.toList.length - 1 - m + 1) (BitVec.ofNat 32 y) ≠ 0#32 := fun h => hyn (s8n_inj _ (h.trans (s8n_zero _).symm))
  have hne : ¬ I (ones ^^^ (upd ones s.data.toList ^^^ s8n (s.data.toList.length - 1 - m + 1) (BitVec.ofNat 32 y))) = I (ones ^^^ upd ones s.data.toList) := fun h => by
    have h2 := I_inj h
    rw [← BitVec.xor_assoc] at h2
    refine hT ?_
    have h3 := congrArg (fun z => (ones ^^^ upd ones s.data.toList) ^^^ z) h2
    simp only [← BitVec.xor_assoc, BitVec.xor_self, BitVec.zero_xor] at h3
    simpa using h3
  rw [decide_eq_false hne, Bool.not_false, cond_true, optb_some, optb_some, w64 (n := (s.size : Int) - 1) (by omega) (by omega), w64 (by omega) (by omega), show (s.size : Int) - 1 - m = ((s.data.toList.length - 1 - m : Nat) : Int) by omega,
    turn_eq (2000 + d) (by omega) (by omega) (by omega) (by omega), optb_some, I_xor, hy, BitVec.xor_assoc, decide_eq_true rfl]
theorem TopSealed : TopSealedPure := by
  intro x0 x1 x2 w0 w1 w2
  have hy : 0 ≤ x2 ∧ x2 ≤ 255 := by
    have h : (Lit.int .u8 x2).wf = true := w2
    simpa [Lit.wf, IntKind.min, IntKind.max, IntKind.signed, IntKind.bits] using h
  refine ⟨2000 + 0 + 300, ?_⟩
  unfold corbeltop_TopSealed
  rw [sumsOk, optb_some, Bool.not_true, cond_false]
  have hs : (bytesOf (encb (x0.2.take 200))).size ≤ 1200 := by rw [bytesOf_size, encb_len, List.length_take]; omega
  refine (fill _ (2000 + 0) x0.2 _ _ 0 rfl (by omega) (by omega)).trans ?_
  refine (check _ _ (2000 + 0) x0.2 (x0.2.take 200) (x0.2.drop 200) (List.take_append_drop ..).symm (by rw [List.length_take]; omega) _ _ 0 rfl (by omega) (by rw [List.length_take]; omega)).trans ?_
  generalize hE : bytesOf (encb (x0.2.take 200)) = s at *
  by_cases h0 : s = ⟨#[]⟩
  · rw [decide_eq_true h0, cond_true]; exact j3_true 0 s hs _
  · rw [decide_eq_false h0, cond_false]
    by_cases hb : x2 = 0
    · rw [decide_eq_true hb]; exact j3_true 0 s hs _
    · rw [decide_eq_false hb]
      show corbeltop_TopSealed_k3 _ _ _ _ = _
      have hz : 0 < s.size := by
        rcases Nat.eq_zero_or_pos s.size with h | h
        · refine absurd ?_ h0
          apply ByteArray.ext
          exact Array.eq_empty_of_size_eq_zero h
        · exact h
      obtain ⟨y, hyy⟩ : ∃ y : Nat, x2 = (y : Int) := Int.eq_ofNat_of_zero_le hy.1
      have y0 : (y : Int) ≠ 0 := fun h => hb (hyy.trans h)
      have y1 : (y : Int) ≤ 255 := by rw [← hyy]; exact hy.2
      rw [hyy]
      exact k3_true 0 s hz hs x1 y (by omega) (by omega)
end Go.Proofs.YtdmcfpnegbfgiaaDoor.Pure
