/- TopWritten: the pure statement, over numbers and lists alone; no conditions. -/
import Derived.Test.YtibdnfknokkadaaDoorStatTopWritten
set_option linter.unusedVariables false
set_option linter.unusedSimpArgs false
namespace Go.Proofs.YtibdnfknokkadaaDoor.Pure
open Go Go.RowKit Go.Proofs.YtibdnfknokkadaaDoor.Ev
/-! ### whole numbers -/
theorem wf_i64 {n : Int} (h : Ty.wf (.int .i64) n) : -9223372036854775808 ≤ n ∧ n ≤ 9223372036854775807 := by
  have h : (Lit.int .i64 n).wf = true := h
  simpa [Lit.wf, IntKind.min, IntKind.max, IntKind.signed, IntKind.bits] using h
theorem w64 {n : Int} (h0 : -9223372036854775808 ≤ n) (h1 : n ≤ 9223372036854775807) : wrap64 n = n := by unfold wrap64; omega
theorem tdiv_pos {a b : Int} (ha : 0 ≤ a) : Int.tdiv a b = a / b := Int.tdiv_eq_ediv_of_nonneg ha
theorem tmod_pos {a b : Int} (ha : 0 ≤ a) : Int.tmod a b = a % b := Int.tmod_eq_emod_of_nonneg ha
theorem bytesOf_append (a b : List Int) : bytesOf a ++ bytesOf b = bytesOf (a ++ b) := by
  apply ByteArray.ext
  simp [bytesOf]
theorem cond_t {α : Type} {c : Bool} {a b : α} (h : c = true) : (bif c then a else b) = a := by rw [h]; rfl
theorem cond_f {α : Type} {c : Bool} {a b : α} (h : c = false) : (bif c then a else b) = b := by rw [h]; rfl
theorem optb_some {α β : Type} (a : α) (f : α → Option β) : optb (some a) f = f a := rfl
theorem and_mask (x : Int) (i : Nat) (hi : i ≤ 62) : bitop .and .i64 x (2 ^ i - 1) = x % 2 ^ i := by
  have h2 : (2 : Nat) ^ i ≤ 2 ^ 62 := Nat.pow_le_pow_right (by decide) hi
  have h62 : (2 : Nat) ^ 62 = 4611686018427387904 := by decide
  have h64 : (2 : Nat) ^ 64 = 18446744073709551616 := by decide
  have hp : 0 < 2 ^ i := Nat.two_pow_pos i
  have hc : ((2 : Int) ^ i - 1) = ((2 ^ i - 1 : Nat) : Int) := by rw [Int.natCast_sub hp]; simp
  have hd : (2 ^ i : Nat) ∣ 2 ^ 64 := Nat.pow_dvd_pow 2 (by omega)
  have hb : IntKind.i64.bits = 64 := rfl
  have key : ((BitVec.ofInt 64 x &&& BitVec.ofInt 64 (2 ^ i - 1)).toNat : Int) = x % 2 ^ i := by
    rw [hc, BitVec.ofInt_natCast, BitVec.toNat_and, BitVec.toNat_ofNat, Nat.mod_eq_of_lt (show 2 ^ i - 1 < 2 ^ 64 by omega), Nat.and_two_pow_sub_one_eq_mod, BitVec.toNat_ofInt,
      Int.natCast_emod, Int.toNat_of_nonneg (Int.emod_nonneg _ (by decide)), Int.emod_emod_of_dvd]
    · simp
    · exact Int.natCast_dvd_natCast.2 hd
  have hlt : ((BitVec.ofInt 64 x &&& BitVec.ofInt 64 (2 ^ i - 1)).toNat : Int) < 4611686018427387904 := by
    rw [key]
    have : x % ((2 ^ i : Nat) : Int) < ((2 ^ i : Nat) : Int) := Int.emod_lt_of_pos _ (by omega)
    have e : ((2 ^ i : Nat) : Int) = (2 : Int) ^ i := by simp
    rw [e] at this
    have : (2 : Int) ^ i ≤ 4611686018427387904 := by rw [← e]; omega
    omega
  show IntKind.i64.wrap ((BitVec.ofInt 64 x &&& BitVec.ofInt 64 (2 ^ i - 1)).toNat : Int) = x % 2 ^ i
  rw [IntKind.wrap_i64]
  omega
/-! ### bytes, the greatest first -/
def be (n : Int) : Nat → List Int
  | 0 => []
  | w + 1 => (n / 256 ^ w % 256) :: be n w
theorem be_length (n : Int) : ∀ w, (be n w).length = w
  | 0 => rfl
  | w + 1 => by simp [be, be_length n w]
theorem u8_wrap (x : Int) : IntKind.u8.wrap x = x % 256 := by simp [IntKind.wrap, IntKind.signed, IntKind.bits]
theorem be_range (n : Int) : ∀ w, ∀ x ∈ be n w, 0 ≤ x ∧ x < 256
  | 0, x, h => by simp [be] at h
  | w + 1, x, h => by
    rcases List.mem_cons.1 h with rfl | h
    · omega
    · exact be_range n w x h
def u8s (l : List Int) : List UInt8 := l.map fun n => UInt8.ofNat n.toNat
theorem bytesOf_data (l : List Int) : (bytesOf l).data = (u8s l).toArray := rfl
theorem toList_data (s : ByteArray) : s.toList = s.data.toList := by
  have loop : ∀ (i : Nat) (r : List UInt8), ByteArray.toList.loop s i r = r.reverse ++ s.data.toList.drop i := by
    intro i r
    fun_induction ByteArray.toList.loop s i r with
    | case1 i r h ih =>
      rw [ih, List.reverse_cons, List.append_assoc]
      congr 1
      have hi : i < s.data.toList.length := by simpa using h
      rw [List.drop_eq_getElem_cons hi]
      simp [ByteArray.get!, h]
    | case2 i r h =>
      have : s.data.toList.length ≤ i := by simpa using h
      rw [List.drop_eq_nil_of_le this, List.append_nil]
  unfold ByteArray.toList
  rw [loop]; simp
theorem bytesOf_toList (l : List Int) : (bytesOf l).toList = u8s l := by rw [toList_data, bytesOf_data]
theorem bytesOf_size (l : List Int) : (bytesOf l).size = l.length := by
  show (bytesOf l).data.size = _
  rw [bytesOf_data]; simp [u8s]
theorem bt_of (l : List Int) (i : Nat) {x : Int} (h : l[i]? = some x) (h0 : 0 ≤ x) (h1 : x < 256) : bt (bytesOf l) (i : Int) = x := by
  have hi : i < l.length := (List.getElem?_eq_some_iff.1 h).1
  have hx : l[i] = x := (List.getElem?_eq_some_iff.1 h).2
  unfold bt
  have hs : (i : Int).toNat < (bytesOf l).size := by rw [bytesOf_size]; simpa using hi
  rw [dif_pos hs]
  have e : (bytesOf l)[(i : Int).toNat]'hs = UInt8.ofNat x.toNat := by
    show (bytesOf l).data[(i : Int).toNat]'hs = _
    simp [bytesOf_data, u8s, hx]
  rw [e]
  simp
  omega
theorem u8_nat {a : Int} (h0 : 0 ≤ a) (h1 : a < 256) : (UInt8.ofNat a.toNat).toNat = a.toNat := by
  rw [UInt8.toNat_ofNat']; omega
theorem u8_lt {a b : Int} (a0 : 0 ≤ a) (a1 : a < 256) (b0 : 0 ≤ b) (b1 : b < 256) : (decide (UInt8.ofNat a.toNat < UInt8.ofNat b.toNat)) = decide (a < b) := by
  rw [decide_eq_decide, UInt8.lt_iff_toNat_lt, u8_nat a0 a1, u8_nat b0 b1]; omega
theorem u8_beq {a b : Int} (a0 : 0 ≤ a) (a1 : a < 256) (b0 : 0 ≤ b) (b1 : b < 256) : (UInt8.ofNat a.toNat == UInt8.ofNat b.toNat) = decide (a = b) := by
  rw [Bool.eq_iff_iff, beq_iff_eq, decide_eq_true_iff, ← UInt8.toNat_inj, u8_nat a0 a1, u8_nat b0 b1]; omega
theorem mod_step (a : Int) (w : Nat) : a % 256 ^ (w + 1) = (a / 256 ^ w % 256) * 256 ^ w + a % 256 ^ w := by
  have hp : (0 : Int) < 256 ^ w := Int.pow_pos (by decide)
  rw [Int.pow_succ]
  have h1 := Int.emod_add_mul_ediv a (256 ^ w)
  have h2 := Int.emod_add_mul_ediv (a / 256 ^ w) 256
  have h3 := Int.emod_add_mul_ediv a (256 ^ w * 256)
  have h4 : a / (256 ^ w * 256) = a / 256 ^ w / 256 := (Int.ediv_ediv_of_nonneg (Int.le_of_lt hp)).symm
  rw [h4] at h3
  generalize a / 256 ^ w = q at *
  generalize (256 : Int) ^ w = p at *
  have h5 : p * 256 * (q / 256) = p * (256 * (q / 256)) := Int.mul_assoc _ _ _
  have h6 : p * q = p * (q % 256) + p * (256 * (q / 256)) := by rw [← Int.mul_add, h2]
  rw [Int.mul_comm (q % 256) p]
  omega
theorem less_be (n m : Int) : ∀ w, Op.bytesLess (u8s (be n w)) (u8s (be m w)) = decide (n % 256 ^ w < m % 256 ^ w)
  | 0 => by simp [be, u8s, Op.bytesLess, Int.emod_one]
  | w + 1 => by
    have ih := less_be n m w
    have hp : (0 : Int) < 256 ^ w := Int.pow_pos (by decide)
    have na := Int.emod_nonneg (n / 256 ^ w) (show (256 : Int) ≠ 0 by decide)
    have nb := Int.emod_lt_of_pos (n / 256 ^ w) (show (0 : Int) < 256 by decide)
    have ma := Int.emod_nonneg (m / 256 ^ w) (show (256 : Int) ≠ 0 by decide)
    have mb := Int.emod_lt_of_pos (m / 256 ^ w) (show (0 : Int) < 256 by decide)
    have r1 := Int.emod_nonneg n (Int.ne_of_gt hp)
    have r2 := Int.emod_lt_of_pos n hp
    have r3 := Int.emod_nonneg m (Int.ne_of_gt hp)
    have r4 := Int.emod_lt_of_pos m hp
    rw [mod_step n, mod_step m]
    simp only [be, u8s, List.map_cons, Op.bytesLess]
    rw [show List.map (fun n => UInt8.ofNat n.toNat) (be n w) = u8s (be n w) from rfl, show List.map (fun n => UInt8.ofNat n.toNat) (be m w) = u8s (be m w) from rfl, ih]
    generalize n / 256 ^ w % 256 = a at *
    generalize m / 256 ^ w % 256 = b at *
    generalize n % 256 ^ w = r at *
    generalize m % 256 ^ w = q at *
    generalize (256 : Int) ^ w = p at *
    rw [u8_beq na nb ma mb]
    show (decide (UInt8.ofNat a.toNat < UInt8.ofNat b.toNat) || _) = _
    rw [u8_lt na nb ma mb]
    rcases Int.lt_trichotomy a b with h | h | h
    · have h7 : (a + 1) * p ≤ b * p := Int.mul_le_mul_of_nonneg_right (by omega) (by omega)
      rw [Int.add_mul] at h7
      rw [decide_eq_true h, decide_eq_true (show a * p + r < b * p + q by omega)]; rfl
    · subst h
      rw [decide_eq_false (Int.lt_irrefl a), decide_eq_true rfl]
      simp
    · have h7 : (b + 1) * p ≤ a * p := Int.mul_le_mul_of_nonneg_right (by omega) (by omega)
      rw [Int.add_mul] at h7
      rw [decide_eq_false (show ¬ a < b by omega), decide_eq_false (show ¬ a = b by omega), decide_eq_false (show ¬ a * p + r < b * p + q by omega)]; rfl
/-! ### a number out of bytes -/
def vl : Int → List Int → Int
  | v, [] => v
  | v, b :: r => vl (v * 256 + b) r
theorem vl_be (n : Int) : ∀ (w : Nat) (v : Int), vl v (be n w) = v * 256 ^ w + n % 256 ^ w
  | 0, v => by simp [be, vl, Int.emod_one]
  | w + 1, v => by
    simp only [be, vl]
    rw [vl_be n w, mod_step n w, Int.pow_succ, Int.add_mul, Int.mul_assoc, Int.mul_comm 256 (256 ^ w)]
    omega
theorem or_add {v b : Int} (v0 : 0 ≤ v) (v1 : v < 281474976710656) (b0 : 0 ≤ b) (b1 : b < 256) : bitop .or .i64 (shlv .i64 v 8) b = v * 256 + b := by
  have e1 : shlv .i64 v 8 = v * 256 := by
    unfold shlv
    have : min (8 : Int).toNat IntKind.i64.bits = 8 := by decide
    rw [this, IntKind.wrap_i64, show (2 : Int) ^ 8 = 256 by decide]; omega
  rw [e1]
  unfold bitop
  simp only
  have hb : IntKind.i64.bits = 64 := rfl
  have n1 : ∀ x : Int, 0 ≤ x → x < 9223372036854775808 → (BitVec.ofInt IntKind.i64.bits x).toNat = x.toNat := fun x h0 h1 => by
    rw [BitVec.toNat_ofInt, hb]
    have : (2 : Int) ^ 64 = 18446744073709551616 := by decide
    have : ((2 ^ 64 : Nat) : Int) = 18446744073709551616 := by decide
    rw [this, Int.emod_eq_of_lt h0 (by omega)]
  rw [BitVec.toNat_or, n1 _ (by omega) (by omega), n1 _ b0 (by omega)]
  have hv : (v * 256).toNat = v.toNat <<< 8 := by rw [Nat.shiftLeft_eq]; omega
  rw [hv, ← Nat.shiftLeft_add_eq_or_of_lt (show b.toNat < 2 ^ 8 by omega), Nat.shiftLeft_eq, IntKind.wrap_i64]
  omega
theorem get_loop (e0 : Int → Option (Int × Bool)) (k : Nat) (l : List Int) (hl : l.length ≤ 7) (hr : ∀ x ∈ l, 0 ≤ x ∧ x < 256) : ∀ (rest pre : List Int) (j : Nat) (v : Int), rest.length < j → l = pre ++ rest → 0 ≤ v → v < 256 ^ pre.length →
    nums_Get_l1 e0 k (bytesOf l) (l.length : Int) j v (pre.length : Int) = e0 (vl v rest)
  | rest, pre, 0, v, hj, _, _, _ => by omega
  | [], pre, j + 1, v, hj, he, v0, v1 => by
    show nums_Get_l1s _ _ _ _ _ _ _ = _
    unfold nums_Get_l1s
    rw [cond_f (decide_eq_false (by rw [he]; simp))]
    rfl
  | b :: rest, pre, j + 1, v, hj, he, v0, v1 => by
    show nums_Get_l1s _ _ _ _ _ _ _ = _
    unfold nums_Get_l1s
    have hlen : l.length = pre.length + (rest.length + 1) := by rw [he]; simp
    have hb := hr b (by rw [he]; simp)
    have hx : l[pre.length]? = some b := by rw [he]; simp
    rw [cond_t (decide_eq_true (by omega)), sizeI_eq, bytesOf_size, cond_t (by simp; omega), bt_of l pre.length hx hb.1 hb.2]
    have hp : (256 : Int) ^ pre.length ≤ 281474976710656 := by
      have h6 : pre.length ≤ 6 := by omega
      have : (256 : Nat) ^ pre.length ≤ 256 ^ 6 := Nat.pow_le_pow_right (by decide) h6
      have h8 : ((256 ^ pre.length : Nat) : Int) = (256 : Int) ^ pre.length := by simp
      have h9 : (256 : Nat) ^ 6 = 281474976710656 := by decide
      omega
    have hw : wrap64 b = b := w64 (by omega) (by omega)
    have hi : wrap64 ((pre.length : Int) + 1) = (((pre ++ [b]).length : Nat) : Int) := by rw [w64 (by omega) (by omega)]; simp
    rw [hw, or_add v0 (by omega) hb.1 hb.2, hi]
    refine get_loop e0 k l hl hr rest (pre ++ [b]) j (v * 256 + b) (by simp at hj; omega) (by rw [he]; simp) (by omega) ?_
    rw [List.length_append, List.length_singleton, Int.pow_succ]
    omega
theorem get_of (d : Nat) (l : List Int) (h0 : 1 ≤ l.length) (hl : l.length ≤ 7) (hr : ∀ x ∈ l, 0 ≤ x ∧ x < 256) : nums_Get (d + 300) (bytesOf l) = some (vl 0 l, true) := by
  unfold nums_Get
  rw [sizeI_eq, bytesOf_size, cond_f (decide_eq_false (by omega)), decide_eq_false (by omega)]
  show nums_Get_k1 (d + 300) (bytesOf l) = _
  unfold nums_Get_k1
  rw [sizeI_eq, bytesOf_size]
  exact get_loop _ _ l hl hr l [] (d + 300) 0 (by omega) rfl (by omega) (by simp)
theorem shr_eq {n : Int} {t : Int} (h0 : 0 ≤ t) (h1 : t < 64) : shrv .i64 n t = n / (2 ^ t.toNat) := by
  unfold shrv
  have : min t.toNat IntKind.i64.bits = t.toNat := by
    have : IntKind.i64.bits = 64 := rfl
    omega
  rw [this]
theorem u8_mod (x : Int) : IntKind.u8.wrap (x % 256) = IntKind.u8.wrap x := by
  simp [IntKind.wrap, IntKind.signed, IntKind.bits]
def putR (n s : Int) (l : List Int) : Option ByteArray := bif decide (n < 0) then some ⟨#[]⟩ else bif !(decide (shrv .i64 n s = 0)) then some ⟨#[]⟩ else some (bytesOf l)
theorem put_low (d : Nat) (n w : Int) (h : w < 1) : nums_Put (d + 300) n w = some ⟨#[]⟩ := cond_t (decide_eq_true h)
theorem put_high (d : Nat) (n w : Int) (h0 : ¬ w < 1) (h : 7 < w) : nums_Put (d + 300) n w = some ⟨#[]⟩ := (cond_f (decide_eq_false h0)).trans (cond_t (decide_eq_true h))
theorem put_1 (d : Nat) (n : Int) : nums_Put (d + 300) n 1 = putR n 8 [IntKind.u8.wrap (shrv .i64 n 0)] := by kernel_rfl
theorem put_2 (d : Nat) (n : Int) : nums_Put (d + 300) n 2 = putR n 16 [IntKind.u8.wrap (shrv .i64 n 8), IntKind.u8.wrap (shrv .i64 n 0)] := by kernel_rfl
theorem put_3 (d : Nat) (n : Int) : nums_Put (d + 300) n 3 = putR n 24 [IntKind.u8.wrap (shrv .i64 n 16), IntKind.u8.wrap (shrv .i64 n 8), IntKind.u8.wrap (shrv .i64 n 0)] := by kernel_rfl
theorem put_4 (d : Nat) (n : Int) : nums_Put (d + 300) n 4 = putR n 32 [IntKind.u8.wrap (shrv .i64 n 24), IntKind.u8.wrap (shrv .i64 n 16), IntKind.u8.wrap (shrv .i64 n 8), IntKind.u8.wrap (shrv .i64 n 0)] := by kernel_rfl
theorem put_5 (d : Nat) (n : Int) : nums_Put (d + 300) n 5 = putR n 40 [IntKind.u8.wrap (shrv .i64 n 32), IntKind.u8.wrap (shrv .i64 n 24), IntKind.u8.wrap (shrv .i64 n 16), IntKind.u8.wrap (shrv .i64 n 8), IntKind.u8.wrap (shrv .i64 n 0)] := by kernel_rfl
theorem put_6 (d : Nat) (n : Int) : nums_Put (d + 300) n 6 = putR n 48 [IntKind.u8.wrap (shrv .i64 n 40), IntKind.u8.wrap (shrv .i64 n 32), IntKind.u8.wrap (shrv .i64 n 24), IntKind.u8.wrap (shrv .i64 n 16), IntKind.u8.wrap (shrv .i64 n 8), IntKind.u8.wrap (shrv .i64 n 0)] := by kernel_rfl
theorem put_7 (d : Nat) (n : Int) : nums_Put (d + 300) n 7 = putR n 56 [IntKind.u8.wrap (shrv .i64 n 48), IntKind.u8.wrap (shrv .i64 n 40), IntKind.u8.wrap (shrv .i64 n 32), IntKind.u8.wrap (shrv .i64 n 24), IntKind.u8.wrap (shrv .i64 n 16), IntKind.u8.wrap (shrv .i64 n 8), IntKind.u8.wrap (shrv .i64 n 0)] := by kernel_rfl
theorem pb_1 (d : Nat) (n : Int) (h0 : 0 ≤ n) : nums_Put (d + 300) n 1 = bif decide (n / 256 ^ 1 = 0) then some (bytesOf (be n 1)) else some ⟨#[]⟩ := by
  rw [put_1]
  unfold putR
  rw [decide_eq_false (show ¬ n < 0 by omega)]
  simp only [cond_false, be, u8_wrap]
  simp only [shr_eq (t := 8) (by omega) (by omega), shr_eq (t := 0) (by omega) (by omega)]
  simp only [show (2 : Int) ^ Int.toNat 0 = 1 from by decide, show (2 : Int) ^ Int.toNat 8 = 256 from by decide]
  simp only [show (256 : Int) ^ 0 = 1 from by decide, show (256 : Int) ^ 1 = 256 from by decide]
  cases decide (n / 256 = 0) <;> rfl
theorem pb_2 (d : Nat) (n : Int) (h0 : 0 ≤ n) : nums_Put (d + 300) n 2 = bif decide (n / 256 ^ 2 = 0) then some (bytesOf (be n 2)) else some ⟨#[]⟩ := by
  rw [put_2]
  unfold putR
  rw [decide_eq_false (show ¬ n < 0 by omega)]
  simp only [cond_false, be, u8_wrap]
  simp only [shr_eq (t := 16) (by omega) (by omega), shr_eq (t := 0) (by omega) (by omega), shr_eq (t := 8) (by omega) (by omega)]
  simp only [show (2 : Int) ^ Int.toNat 0 = 1 from by decide, show (2 : Int) ^ Int.toNat 8 = 256 from by decide, show (2 : Int) ^ Int.toNat 16 = 65536 from by decide]
  simp only [show (256 : Int) ^ 0 = 1 from by decide, show (256 : Int) ^ 1 = 256 from by decide, show (256 : Int) ^ 2 = 65536 from by decide]
  cases decide (n / 65536 = 0) <;> rfl
theorem pb_3 (d : Nat) (n : Int) (h0 : 0 ≤ n) : nums_Put (d + 300) n 3 = bif decide (n / 256 ^ 3 = 0) then some (bytesOf (be n 3)) else some ⟨#[]⟩ := by
  rw [put_3]
  unfold putR
  rw [decide_eq_false (show ¬ n < 0 by omega)]
  simp only [cond_false, be, u8_wrap]
  simp only [shr_eq (t := 24) (by omega) (by omega), shr_eq (t := 0) (by omega) (by omega), shr_eq (t := 8) (by omega) (by omega), shr_eq (t := 16) (by omega) (by omega)]
  simp only [show (2 : Int) ^ Int.toNat 0 = 1 from by decide, show (2 : Int) ^ Int.toNat 8 = 256 from by decide, show (2 : Int) ^ Int.toNat 16 = 65536 from by decide, show (2 : Int) ^ Int.toNat 24 = 16777216 from by decide]
  simp only [show (256 : Int) ^ 0 = 1 from by decide, show (256 : Int) ^ 1 = 256 from by decide, show (256 : Int) ^ 2 = 65536 from by decide, show (256 : Int) ^ 3 = 16777216 from by decide]
  cases decide (n / 16777216 = 0) <;> rfl
theorem pb_4 (d : Nat) (n : Int) (h0 : 0 ≤ n) : nums_Put (d + 300) n 4 = bif decide (n / 256 ^ 4 = 0) then some (bytesOf (be n 4)) else some ⟨#[]⟩ := by
  rw [put_4]
  unfold putR
  rw [decide_eq_false (show ¬ n < 0 by omega)]
  simp only [cond_false, be, u8_wrap]
  simp only [shr_eq (t := 32) (by omega) (by omega), shr_eq (t := 0) (by omega) (by omega), shr_eq (t := 8) (by omega) (by omega), shr_eq (t := 16) (by omega) (by omega), shr_eq (t := 24) (by omega) (by omega)]
  simp only [show (2 : Int) ^ Int.toNat 0 = 1 from by decide, show (2 : Int) ^ Int.toNat 8 = 256 from by decide, show (2 : Int) ^ Int.toNat 16 = 65536 from by decide, show (2 : Int) ^ Int.toNat 24 = 16777216 from by decide, show (2 : Int) ^ Int.toNat 32 = 4294967296 from by decide]
  simp only [show (256 : Int) ^ 0 = 1 from by decide, show (256 : Int) ^ 1 = 256 from by decide, show (256 : Int) ^ 2 = 65536 from by decide, show (256 : Int) ^ 3 = 16777216 from by decide, show (256 : Int) ^ 4 = 4294967296 from by decide]
  cases decide (n / 4294967296 = 0) <;> rfl
theorem pb_5 (d : Nat) (n : Int) (h0 : 0 ≤ n) : nums_Put (d + 300) n 5 = bif decide (n / 256 ^ 5 = 0) then some (bytesOf (be n 5)) else some ⟨#[]⟩ := by
  rw [put_5]
  unfold putR
  rw [decide_eq_false (show ¬ n < 0 by omega)]
  simp only [cond_false, be, u8_wrap]
  simp only [shr_eq (t := 40) (by omega) (by omega), shr_eq (t := 0) (by omega) (by omega), shr_eq (t := 8) (by omega) (by omega), shr_eq (t := 16) (by omega) (by omega), shr_eq (t := 24) (by omega) (by omega), shr_eq (t := 32) (by omega) (by omega)]
  simp only [show (2 : Int) ^ Int.toNat 0 = 1 from by decide, show (2 : Int) ^ Int.toNat 8 = 256 from by decide, show (2 : Int) ^ Int.toNat 16 = 65536 from by decide, show (2 : Int) ^ Int.toNat 24 = 16777216 from by decide, show (2 : Int) ^ Int.toNat 32 = 4294967296 from by decide, show (2 : Int) ^ Int.toNat 40 = 1099511627776 from by decide]
  simp only [show (256 : Int) ^ 0 = 1 from by decide, show (256 : Int) ^ 1 = 256 from by decide, show (256 : Int) ^ 2 = 65536 from by decide, show (256 : Int) ^ 3 = 16777216 from by decide, show (256 : Int) ^ 4 = 4294967296 from by decide, show (256 : Int) ^ 5 = 1099511627776 from by decide]
  cases decide (n / 1099511627776 = 0) <;> rfl
theorem pb_6 (d : Nat) (n : Int) (h0 : 0 ≤ n) : nums_Put (d + 300) n 6 = bif decide (n / 256 ^ 6 = 0) then some (bytesOf (be n 6)) else some ⟨#[]⟩ := by
  rw [put_6]
  unfold putR
  rw [decide_eq_false (show ¬ n < 0 by omega)]
  simp only [cond_false, be, u8_wrap]
  simp only [shr_eq (t := 48) (by omega) (by omega), shr_eq (t := 0) (by omega) (by omega), shr_eq (t := 8) (by omega) (by omega), shr_eq (t := 16) (by omega) (by omega), shr_eq (t := 24) (by omega) (by omega), shr_eq (t := 32) (by omega) (by omega), shr_eq (t := 40) (by omega) (by omega)]
  simp only [show (2 : Int) ^ Int.toNat 0 = 1 from by decide, show (2 : Int) ^ Int.toNat 8 = 256 from by decide, show (2 : Int) ^ Int.toNat 16 = 65536 from by decide, show (2 : Int) ^ Int.toNat 24 = 16777216 from by decide, show (2 : Int) ^ Int.toNat 32 = 4294967296 from by decide, show (2 : Int) ^ Int.toNat 40 = 1099511627776 from by decide, show (2 : Int) ^ Int.toNat 48 = 281474976710656 from by decide]
  simp only [show (256 : Int) ^ 0 = 1 from by decide, show (256 : Int) ^ 1 = 256 from by decide, show (256 : Int) ^ 2 = 65536 from by decide, show (256 : Int) ^ 3 = 16777216 from by decide, show (256 : Int) ^ 4 = 4294967296 from by decide, show (256 : Int) ^ 5 = 1099511627776 from by decide, show (256 : Int) ^ 6 = 281474976710656 from by decide]
  cases decide (n / 281474976710656 = 0) <;> rfl
theorem pb_7 (d : Nat) (n : Int) (h0 : 0 ≤ n) : nums_Put (d + 300) n 7 = bif decide (n / 256 ^ 7 = 0) then some (bytesOf (be n 7)) else some ⟨#[]⟩ := by
  rw [put_7]
  unfold putR
  rw [decide_eq_false (show ¬ n < 0 by omega)]
  simp only [cond_false, be, u8_wrap]
  simp only [shr_eq (t := 56) (by omega) (by omega), shr_eq (t := 0) (by omega) (by omega), shr_eq (t := 8) (by omega) (by omega), shr_eq (t := 16) (by omega) (by omega), shr_eq (t := 24) (by omega) (by omega), shr_eq (t := 32) (by omega) (by omega), shr_eq (t := 40) (by omega) (by omega), shr_eq (t := 48) (by omega) (by omega)]
  simp only [show (2 : Int) ^ Int.toNat 0 = 1 from by decide, show (2 : Int) ^ Int.toNat 8 = 256 from by decide, show (2 : Int) ^ Int.toNat 16 = 65536 from by decide, show (2 : Int) ^ Int.toNat 24 = 16777216 from by decide, show (2 : Int) ^ Int.toNat 32 = 4294967296 from by decide, show (2 : Int) ^ Int.toNat 40 = 1099511627776 from by decide, show (2 : Int) ^ Int.toNat 48 = 281474976710656 from by decide, show (2 : Int) ^ Int.toNat 56 = 72057594037927936 from by decide]
  simp only [show (256 : Int) ^ 0 = 1 from by decide, show (256 : Int) ^ 1 = 256 from by decide, show (256 : Int) ^ 2 = 65536 from by decide, show (256 : Int) ^ 3 = 16777216 from by decide, show (256 : Int) ^ 4 = 4294967296 from by decide, show (256 : Int) ^ 5 = 1099511627776 from by decide, show (256 : Int) ^ 6 = 281474976710656 from by decide, show (256 : Int) ^ 7 = 72057594037927936 from by decide]
  cases decide (n / 72057594037927936 = 0) <;> rfl
theorem put_cases (d : Nat) (n w : Int) : nums_Put (d + 300) n w = some ⟨#[]⟩ ∨ ∃ W : Nat, w = W ∧ 1 ≤ W ∧ W ≤ 7 ∧ 0 ≤ n ∧ n < 256 ^ W ∧ nums_Put (d + 300) n w = some (bytesOf (be n W)) := by
  by_cases a : w < 1
  · exact .inl (put_low d n w a)
  by_cases b : 7 < w
  · exact .inl (put_high d n w a b)
  have neg : ∀ (s : Int) (l : List Int), n < 0 → putR n s l = some ⟨#[]⟩ := fun s l h => by unfold putR; rw [decide_eq_true h]; rfl
  have pos : ∀ (W : Nat), 0 ≤ n → (nums_Put (d + 300) n W = bif decide (n / 256 ^ W = 0) then some (bytesOf (be n W)) else some ⟨#[]⟩) → 1 ≤ W → W ≤ 7 → nums_Put (d + 300) n W = some ⟨#[]⟩ ∨ ∃ V : Nat, (W : Int) = V ∧ 1 ≤ V ∧ V ≤ 7 ∧ 0 ≤ n ∧ n < 256 ^ V ∧ nums_Put (d + 300) n W = some (bytesOf (be n V)) := fun W h0 h h1 h2 => by
    have hp : (0 : Int) < 256 ^ W := Int.pow_pos (by decide)
    by_cases hz : n / 256 ^ W = 0
    · rw [decide_eq_true hz] at h
      have h3 := Int.emod_add_mul_ediv n (256 ^ W)
      have h4 := Int.emod_lt_of_pos n hp
      rw [hz, Int.mul_zero] at h3
      exact .inr ⟨W, rfl, h1, h2, h0, by omega, h⟩
    · rw [decide_eq_false hz] at h
      exact .inl h
  obtain rfl | rfl | rfl | rfl | rfl | rfl | rfl : w = 1 ∨ w = 2 ∨ w = 3 ∨ w = 4 ∨ w = 5 ∨ w = 6 ∨ w = 7 := by omega
  · by_cases h0 : n < 0
    · exact .inl ((put_1 d n).trans (neg _ _ h0))
    · exact pos 1 (by omega) (pb_1 d n (by omega)) (by omega) (by omega)
  · by_cases h0 : n < 0
    · exact .inl ((put_2 d n).trans (neg _ _ h0))
    · exact pos 2 (by omega) (pb_2 d n (by omega)) (by omega) (by omega)
  · by_cases h0 : n < 0
    · exact .inl ((put_3 d n).trans (neg _ _ h0))
    · exact pos 3 (by omega) (pb_3 d n (by omega)) (by omega) (by omega)
  · by_cases h0 : n < 0
    · exact .inl ((put_4 d n).trans (neg _ _ h0))
    · exact pos 4 (by omega) (pb_4 d n (by omega)) (by omega) (by omega)
  · by_cases h0 : n < 0
    · exact .inl ((put_5 d n).trans (neg _ _ h0))
    · exact pos 5 (by omega) (pb_5 d n (by omega)) (by omega) (by omega)
  · by_cases h0 : n < 0
    · exact .inl ((put_6 d n).trans (neg _ _ h0))
    · exact pos 6 (by omega) (pb_6 d n (by omega)) (by omega) (by omega)
  · by_cases h0 : n < 0
    · exact .inl ((put_7 d n).trans (neg _ _ h0))
    · exact pos 7 (by omega) (pb_7 d n (by omega)) (by omega) (by omega)
theorem be_ne (n : Int) {W : Nat} (h : 1 ≤ W) : bytesOf (be n W) ≠ ⟨#[]⟩ := fun h1 => by
  have h2 := congrArg ByteArray.size h1
  rw [bytesOf_size, be_length] at h2
  have : (⟨#[]⟩ : ByteArray).size = 0 := rfl
  omega
theorem get_be (d : Nat) (n : Int) (W : Nat) (h1 : 1 ≤ W) (h2 : W ≤ 7) (h3 : 0 ≤ n) (h4 : n < 256 ^ W) : nums_Get (d + 300) (bytesOf (be n W)) = some (n, true) := by
  rw [get_of d _ (by rw [be_length]; exact h1) (by rw [be_length]; exact h2) (be_range n W), vl_be, Int.zero_mul, Int.zero_add, Int.emod_eq_of_lt h3 h4]
abbrev B := BitVec 32
def poly : B := 0x82f63b78#32
def s1 (c : B) : B := (c >>> 1) ^^^ (if c.getLsbD 0 then poly else 0#32)
theorem s1_xor (a b : B) : s1 (a ^^^ b) = s1 a ^^^ s1 b := by
  unfold s1
  rw [BitVec.ushiftRight_xor_distrib, BitVec.getLsbD_xor]
  cases a.getLsbD 0 <;> cases b.getLsbD 0 <;> simp
  · rw [BitVec.xor_assoc]
  · rw [BitVec.xor_assoc, BitVec.xor_assoc, BitVec.xor_comm poly]
  · rw [BitVec.xor_assoc (a >>> 1), BitVec.xor_comm poly, BitVec.xor_assoc (b >>> 1), BitVec.xor_self]; simp
theorem s1_zero : s1 0#32 = 0#32 := by decide
theorem s1_eq_zero {x : B} (h : s1 x = 0#32) : x = 0#32 := by
  unfold s1 at h
  cases hb : x.getLsbD 0 with
  | true =>
    exfalso
    rw [hb] at h
    have h31 := congrArg (fun z : B => z.getLsbD 31) h
    simp [poly] at h31
  | false =>
    rw [hb] at h
    simp at h
    apply BitVec.eq_of_getLsbD_eq
    intro i hi
    simp
    cases i with
    | zero => exact hb
    | succ i =>
      have := congrArg (fun z : B => z.getLsbD i) h
      simpa [Nat.add_comm] using this
theorem s1_inj {a b : B} (h : s1 a = s1 b) : a = b := by
  have : s1 (a ^^^ b) = 0#32 := by rw [s1_xor, h, BitVec.xor_self]
  have := s1_eq_zero this
  exact BitVec.xor_eq_zero_iff.1 this
def s8 (c : B) : B := s1 (s1 (s1 (s1 (s1 (s1 (s1 (s1 c)))))))
theorem s8_xor (a b : B) : s8 (a ^^^ b) = s8 a ^^^ s8 b := by simp only [s8, s1_xor]
theorem s8_zero : s8 0#32 = 0#32 := by decide
theorem s8_inj {a b : B} (h : s8 a = s8 b) : a = b := by unfold s8 at h; exact s1_inj (s1_inj (s1_inj (s1_inj (s1_inj (s1_inj (s1_inj (s1_inj h)))))))
theorem s8_ne {a : B} (h : a ≠ 0#32) : s8 a ≠ 0#32 := fun e => h (s8_inj (e.trans s8_zero.symm))
def s4 (c : B) : B := s1 (s1 (s1 (s1 c)))
theorem s4_xor (a b : B) : s4 (a ^^^ b) = s4 a ^^^ s4 b := by simp only [s4, s1_xor]
def nibB : List B := [0x00000000, 0x105ec76f, 0x20bd8ede, 0x30e349b1, 0x417b1dbc, 0x5125dad3, 0x61c69362, 0x7198540d, 0x82f63b78, 0x92a8fc17, 0xa24bb5a6, 0xb21572c9, 0xc38d26c4, 0xd3d3e1ab, 0xe330a81a, 0xf36e6f75]
theorem nib_all : ∀ i : Fin 16, s4 (BitVec.ofNat 32 i.val) = nibB.getD i.val 0 := by decide
theorem s1_shl (x : B) (h : x.getLsbD 31 = false) : s1 (x <<< 1) = x := by
  unfold s1
  apply BitVec.eq_of_getLsbD_eq
  intro i hi
  by_cases hi' : i = 31
  · subst hi'; rw [h]; simp
  · have : i < 31 := by omega
    simp [Nat.add_comm]; omega
theorem s4_shl (x : B) (h : ∀ i, 28 ≤ i → x.getLsbD i = false) : s4 (x <<< 4) = x := by
  have e : x <<< 4 = (((x <<< 1) <<< 1) <<< 1) <<< 1 := by simp only [← BitVec.shiftLeft_add]
  have h31 : x[31] = false := h 31 (by omega)
  have h30 : x[30] = false := h 30 (by omega)
  have h29 : x[29] = false := h 29 (by omega)
  have h28 : x[28] = false := h 28 (by omega)
  rw [e]; unfold s4
  rw [s1_shl, s1_shl, s1_shl, s1_shl] <;> simp [h31, h30, h29, h28]
theorem split4 (c : B) : c = ((c >>> 4) <<< 4) ^^^ (c &&& 15#32) := by
  apply BitVec.eq_of_getLsbD_eq
  intro i hi
  have e15 : (15#32 : B) = BitVec.ofNat 32 (2^4 - 1) := rfl
  have hh : (15#32 : B).getLsbD i = decide (i < 4) := by
    rw [e15, BitVec.getLsbD_ofNat, Nat.testBit_two_pow_sub_one]; simp; omega
  rw [BitVec.getLsbD_xor, BitVec.getLsbD_and, hh]
  by_cases h4 : i < 4
  · simp [h4]
  · simp [h4, hi, show 4 + (i - 4) = i by omega]
theorem and15B (c : B) : ∃ i : Fin 16, c &&& 15#32 = BitVec.ofNat 32 i.val ∧ i.val = c.toNat % 16 := by
  refine ⟨⟨c.toNat % 16, by omega⟩, ?_, rfl⟩
  apply BitVec.eq_of_toNat_eq
  simp
  have := Nat.and_two_pow_sub_one_eq_mod c.toNat 4
  simp at this; rw [this]; omega
theorem nib_step (c : B) : (c >>> 4) ^^^ nibB.getD (c.toNat % 16) 0 = s4 c := by
  obtain ⟨i, h1, h2⟩ := and15B c
  have hn := nib_all i
  have hs : s4 c = s4 (((c >>> 4) <<< 4) ^^^ (c &&& 15#32)) := congrArg s4 (split4 c)
  rw [hs, s4_xor, s4_shl, h1, hn, h2]
  intro i hi; rw [BitVec.getLsbD_ushiftRight]; exact BitVec.getLsbD_of_ge _ _ (by omega)
/-! ### the register as a number -/
def I (c : B) : Int := (c.toNat : Int)
theorem I_inj {a b : B} (h : I a = I b) : a = b := by unfold I at h; exact BitVec.eq_of_toNat_eq (by omega)
theorem I_range (a : B) : 0 ≤ I a ∧ I a ≤ 4294967295 := by unfold I; have := a.isLt; omega
theorem I_of {x : Int} (h0 : 0 ≤ x) (h1 : x ≤ 4294967295) : x = I (BitVec.ofInt 32 x) := by
  unfold I; rw [BitVec.toNat_ofInt]; omega
theorem ofI (a : B) : BitVec.ofInt IntKind.u32.bits (I a) = a := by
  unfold I
  apply BitVec.eq_of_toNat_eq
  rw [BitVec.ofInt_natCast]
  show (BitVec.ofNat 32 a.toNat).toNat = _
  rw [BitVec.toNat_ofNat]; exact Nat.mod_eq_of_lt a.isLt
theorem wrap_I (a : B) : IntKind.u32.wrap ((a.toNat : Nat) : Int) = I a := by
  have := a.isLt
  unfold IntKind.wrap I
  simp [IntKind.signed, IntKind.bits]; omega
theorem I_xor (a b : B) : bitop .xor .u32 (I a) (I b) = I (a ^^^ b) := by
  unfold bitop
  simp only [ofI]
  exact wrap_I (a ^^^ b)
theorem I_and15 (c : B) : bitop .and .u32 (I c) 15 = ((c.toNat % 16 : Nat) : Int) := by
  unfold bitop
  simp only [ofI]
  show IntKind.u32.wrap (((c &&& 15#32).toNat : Nat) : Int) = _
  rw [wrap_I]
  unfold I
  congr 1
  rw [BitVec.toNat_and]
  exact Nat.and_two_pow_sub_one_eq_mod c.toNat 4
theorem I_shr4 (c : B) : shrv .u32 (I c) 4 = I (c >>> 4) := by
  unfold shrv I
  rw [BitVec.toNat_ushiftRight, Nat.shiftRight_eq_div_pow, show min (4 : Int).toNat IntKind.u32.bits = 4 by decide]
  simp
def nibI : Nat → Int
  | 0 => 0 | 1 => 274646895 | 2 => 549293790 | 3 => 820201905 | 4 => 1098587580 | 5 => 1361435347 | 6 => 1640403810 | 7 => 1905808397
  | 8 => 2197175160 | 9 => 2460548119 | 10 => 2722870694 | 11 => 2987750089 | 12 => 3280807620 | 13 => 3553878443 | 14 => 3811616794 | _ => 4084100981
theorem nib_eq : ∀ i : Fin 16, nibI i.val = I (nibB.getD i.val 0) := by decide
theorem half_I (c : B) : bitop .xor .u32 (shrv .u32 (I c) 4) (nibI (c.toNat % 16)) = I (s4 c) := by
  rw [I_shr4]
  have := nib_eq ⟨c.toNat % 16, by omega⟩
  simp only at this
  rw [this, I_xor, nib_step]
theorem step_go {R : Type} (rc : Int → Int → Option R) (e0 : Int → Option R) (k : Nat) (c : B) (v : Int) (hv : v < 2) : crc_step_l0s rc e0 k (I c) v = rc (I (s4 c)) (wrap64 (v + 1)) := by
  unfold crc_step_l0s
  rw [cond_t (decide_eq_true hv), I_and15]
  have key := half_I c
  have h16 : c.toNat % 16 < 16 := by omega
  generalize c.toNat % 16 = i at *
  obtain rfl | rfl | rfl | rfl | rfl | rfl | rfl | rfl | rfl | rfl | rfl | rfl | rfl | rfl | rfl | rfl : i = 0 ∨ i = 1 ∨ i = 2 ∨ i = 3 ∨ i = 4 ∨ i = 5 ∨ i = 6 ∨ i = 7 ∨ i = 8 ∨ i = 9 ∨ i = 10 ∨ i = 11 ∨ i = 12 ∨ i = 13 ∨ i = 14 ∨ i = 15 := by omega
  all_goals exact congrArg (fun z => rc z (wrap64 (v + 1))) key
theorem step_end {R : Type} (rc : Int → Int → Option R) (e0 : Int → Option R) (k : Nat) (c : Int) (v : Int) (hv : ¬ v < 2) : crc_step_l0s rc e0 k c v = e0 c := by
  unfold crc_step_l0s
  rw [cond_f (decide_eq_false hv)]
theorem step_I (d : Nat) (c : B) : crc_step (d + 300) (I c) = some (I (s8 c)) := by
  unfold crc_step
  show crc_step_l0s (crc_step_l0 _ _ (d + 299)) _ _ _ _ = _
  rw [step_go _ _ _ _ _ (by decide), w64 (by decide) (by decide)]
  show crc_step_l0s (crc_step_l0 _ _ (d + 298)) _ _ _ _ = _
  rw [step_go _ _ _ _ _ (by decide), w64 (by decide) (by decide)]
  show crc_step_l0s (crc_step_l0 _ _ (d + 297)) _ _ _ _ = _
  rw [step_end _ _ _ _ _ (by decide)]
  rfl
def s8n : Nat → B → B
  | 0, c => c
  | n + 1, c => s8n n (s8 c)
theorem s8n_add (m : Nat) : ∀ (n : Nat) (c : B), s8n (m + n) c = s8n n (s8n m c) := by
  induction m with
  | zero => intro n c; simp [s8n]
  | succ m ih => intro n c; rw [show m + 1 + n = (m + n) + 1 by omega]; simp only [s8n]; rw [ih]
theorem s8n_xor (m : Nat) : ∀ a b : B, s8n m (a ^^^ b) = s8n m a ^^^ s8n m b := by
  induction m with
  | zero => intro a b; rfl
  | succ m ih => intro a b; simp only [s8n, s8_xor, ih]
theorem s8n_zero (m : Nat) : s8n m 0#32 = 0#32 := by
  induction m with
  | zero => rfl
  | succ m ih => simp only [s8n, s8_zero, ih]
theorem s8n_inj (m : Nat) : ∀ {a b : B}, s8n m a = s8n m b → a = b := by
  induction m with
  | zero => intro a b h; exact h
  | succ m ih => intro a b h; exact s8_inj (ih h)
/-! ### the sum over bytes -/
def upd (c : B) (l : List UInt8) : B := l.foldl (fun c b => s8 (c ^^^ BitVec.ofNat 32 b.toNat)) c
def updAll (c : B) (ps : List ByteArray) : B := ps.foldl (fun c p => upd c p.data.toList) c
def total (ps : List ByteArray) : Nat := (ps.map fun p => p.size).sum
def ones : B := 4294967295#32
theorem upd_append (c : B) (a b : List UInt8) : upd c (a ++ b) = upd (upd c a) b := by unfold upd; rw [List.foldl_append]
theorem upd_xor (l : List UInt8) : ∀ c x : B, upd (c ^^^ x) l = upd c l ^^^ s8n l.length x := by
  induction l with
  | nil => intro c x; rfl
  | cons b l ih =>
    intro c x
    show upd (s8 ((c ^^^ x) ^^^ BitVec.ofNat 32 b.toNat)) l = upd (s8 (c ^^^ BitVec.ofNat 32 b.toNat)) l ^^^ s8n l.length (s8 x)
    rw [show (c ^^^ x) ^^^ BitVec.ofNat 32 b.toNat = (c ^^^ BitVec.ofNat 32 b.toNat) ^^^ x by rw [BitVec.xor_assoc, BitVec.xor_comm x, ← BitVec.xor_assoc], s8_xor, ih]
theorem bt_drop (s : ByteArray) (i : Nat) (b : UInt8) (l : List UInt8) (h : s.data.toList.drop i = b :: l) : bt s i = (b.toNat : Int) ∧ i < s.size ∧ s.data.toList.drop (i + 1) = l := by
  have hi : i < s.data.toList.length := by
    rcases Nat.lt_or_ge i s.data.toList.length with h1 | h1
    · exact h1
    · rw [List.drop_eq_nil_of_le h1] at h; cases h
  rw [List.drop_eq_getElem_cons hi] at h
  injection h with h1 h2
  have hs : i < s.size := by simpa using hi
  refine ⟨?_, hs, h2⟩
  unfold bt
  rw [dif_pos (show (i : Int).toNat < s.size by simpa using hs), ← h1]
  rfl
theorem sum_l1 {R : Type} (e0 : Int → Option R) (d : Nat) (s : ByteArray) (hs : s.size ≤ 1099511627776) (l : List UInt8) : ∀ (i : Nat) (j : Nat) (c : B), s.data.toList.drop i = l → l.length < j →
    crc_Sum_l1 e0 (d + 300) s (sizeI s) j (I c) i = e0 (I (upd c l)) := by
  induction l with
  | nil =>
    intro i j c hd hj
    obtain ⟨j, rfl⟩ : ∃ u, j = u + 1 := ⟨j - 1, by omega⟩
    have : s.data.toList.length ≤ i := List.drop_eq_nil_iff.1 hd
    have hl : s.data.toList.length = s.size := by simp
    show crc_Sum_l1s _ _ _ _ _ _ _ = _
    unfold crc_Sum_l1s
    rw [cond_f (decide_eq_false (by rw [sizeI_eq]; omega))]
    rfl
  | cons b l ih =>
    intro i j c hd hj
    rw [List.length_cons] at hj
    obtain ⟨j, rfl⟩ : ∃ u, j = u + 1 := ⟨j - 1, by omega⟩
    obtain ⟨h1, h2, h3⟩ := bt_drop s i b l hd
    have hb := b.toNat_lt
    show crc_Sum_l1s _ _ _ _ _ _ _ = _
    unfold crc_Sum_l1s
    rw [cond_t (decide_eq_true (by rw [sizeI_eq]; omega)), cond_t (by rw [sizeI_eq]; simp; omega), h1, show IntKind.u32.wrap (b.toNat : Int) = I (BitVec.ofNat 32 b.toNat) by
      unfold IntKind.wrap I; rw [BitVec.toNat_ofNat]; simp [IntKind.signed, IntKind.bits]; omega, I_xor, step_I, optb_some, w64 (by omega) (by omega), show (i : Int) + 1 = ((i + 1 : Nat) : Int) by omega]
    exact ih (i + 1) j _ h3 (by omega)
theorem sum_l0 (d : Nat) (L : List ByteArray) (hL : L.length ≤ 1099511627776) (hz : ∀ p ∈ L, p.size ≤ 1099511627776 ∧ p.size < d + 300) (ps : List ByteArray) : ∀ (i j : Nat) (c : B), L.drop i = ps → ps.length < j →
    crc_Sum_l0 (fun c => some (bitop .xor .u32 4294967295 c)) (d + 300) L (lenI L) j (I c) i = some (I (ones ^^^ updAll c ps)) := by
  induction ps with
  | nil =>
    intro i j c hd hj
    obtain ⟨j, rfl⟩ : ∃ u, j = u + 1 := ⟨j - 1, by omega⟩
    have : L.length ≤ i := List.drop_eq_nil_iff.1 hd
    show crc_Sum_l0s _ _ _ _ _ _ _ = _
    unfold crc_Sum_l0s
    rw [cond_f (decide_eq_false (by rw [lenI_eq]; omega))]
    exact congrArg some (I_xor ones c)
  | cons p ps ih =>
    intro i j c hd hj
    rw [List.length_cons] at hj
    obtain ⟨j, rfl⟩ : ∃ u, j = u + 1 := ⟨j - 1, by omega⟩
    have hi : i < L.length := by
      rcases Nat.lt_or_ge i L.length with h1 | h1
      · exact h1
      · rw [List.drop_eq_nil_of_le h1] at hd; cases hd
    have hd' := hd
    rw [List.drop_eq_getElem_cons hi] at hd'
    injection hd' with h1 h2
    have hp := hz p (h1 ▸ List.getElem_mem hi)
    show crc_Sum_l0s _ _ _ _ _ _ _ = _
    unfold crc_Sum_l0s
    rw [cond_t (decide_eq_true (by rw [lenI_eq]; omega)), cond_t (decide_eq_true (by omega)), show (i : Int).toNat = i from rfl, List.getElem?_eq_getElem hi, h1, optb_some]
    refine (sum_l1 _ d p hp.1 p.data.toList 0 (d + 300) c rfl (by simp; omega)).trans ?_
    rw [w64 (by omega) (by omega), show (i : Int) + 1 = ((i + 1 : Nat) : Int) by omega]
    exact ih (i + 1) j _ h2 (by omega)
theorem sum_eq (d : Nat) (b : Bool) (L : List ByteArray) (hL : L.length < d + 300) (hL' : L.length ≤ 1099511627776) (hz : ∀ p ∈ L, p.size ≤ 1099511627776 ∧ p.size < d + 300) : crc_Sum (d + 300) b L = some (I (ones ^^^ updAll ones L)) :=
  sum_l0 d L hL' hz L 0 (d + 300) ones rfl hL
theorem blocks_val (k : Nat) (kd : Int) (h : 1 ≤ kd ∧ kd ≤ 6) : record_Blocks k kd = some (if kd = 4 then 2 else 1) := by
  unfold record_Blocks
  by_cases c : kd = 4
  · subst c; rfl
  · simp only [if_neg c, decide_eq_false (show ¬ kd < 1 by omega), decide_eq_false (show ¬ 6 < kd by omega), cond_false]
    unfold record_Blocks_j0 record_Blocks_k0 record_Blocks_k1
    rw [cond_false, decide_eq_false c, cond_false]
theorem put_ok1 (d : Nat) {n : Int} (h : 0 ≤ n ∧ n < 256) : nums_Put (d + 300) n 1 = some (bytesOf (be n 1)) := by
  rw [pb_1 d n h.1, decide_eq_true (Int.ediv_eq_zero_of_lt h.1 (by show n < 256; omega)), cond_true]
theorem put_ok2 (d : Nat) {n : Int} (h : 0 ≤ n ∧ n < 65536) : nums_Put (d + 300) n 2 = some (bytesOf (be n 2)) := by
  rw [pb_2 d n h.1, decide_eq_true (Int.ediv_eq_zero_of_lt h.1 (by show n < 65536; omega)), cond_true]
theorem put_ok4 (d : Nat) {n : Int} (h : 0 ≤ n ∧ n < 4294967296) : nums_Put (d + 300) n 4 = some (bytesOf (be n 4)) := by
  rw [pb_4 d n h.1, decide_eq_true (Int.ediv_eq_zero_of_lt h.1 (by show n < 4294967296; omega)), cond_true]
theorem put_ok6 (d : Nat) {n : Int} (h : 0 ≤ n ∧ n < 281474976710656) : nums_Put (d + 300) n 6 = some (bytesOf (be n 6)) := by
  rw [pb_6 d n h.1, decide_eq_true (Int.ediv_eq_zero_of_lt h.1 (by show n < 281474976710656; omega)), cond_true]
def z39 : ByteArray := ⟨#[0, 0, 0, 0, 0, 0, 0, 0, 0, 0, 0, 0, 0, 0, 0, 0, 0, 0, 0, 0, 0, 0, 0, 0, 0, 0, 0, 0, 0, 0, 0, 0, 0, 0, 0, 0, 0, 0, 0]⟩
theorem zero39 (d : Nat) : xor_Zero (d + 300) 39 = some z39 := by kernel_rfl
/-! ### a record's text -/
structure RecOK (kd sq a b c e : Int) (body : ByteArray) : Prop where
  hk : 1 ≤ kd ∧ kd ≤ 6
  hq : 0 ≤ sq ∧ sq ≤ 1099511627776
  ha : 0 ≤ a ∧ a ≤ 65535
  hb : 0 ≤ b ∧ b ≤ 65535
  hc : 0 ≤ c ∧ c ≤ 1099511627776
  he : 0 ≤ e ∧ e ≤ 65535
  hy : body.size = if kd = 4 then 64 else 0
def headB (kd sq a b c e : Int) : ByteArray := (((((((⟨#[67, 66]⟩ : ByteArray) ++ bytesOf (be kd 1)) ++ bytesOf (be sq 6)) ++ bytesOf (be a 2)) ++ bytesOf (be b 2)) ++ bytesOf (be c 6)) ++ bytesOf (be e 2))
def sumV (kd sq a b c e : Int) (body : ByteArray) : Int := I (ones ^^^ updAll ones [headB kd sq a b c e, body])
def encB (kd sq a b c e : Int) (body : ByteArray) : ByteArray := ((headB kd sq a b c e ++ bytesOf (be (sumV kd sq a b c e body) 4)) ++ z39) ++ body
theorem bs (n : Int) (w : Nat) : (bytesOf (be n w)).size = w := by rw [bytesOf_size, be_length]
theorem headB_size (kd sq a b c e : Int) : (headB kd sq a b c e).size = 21 := by
  unfold headB
  rw [ByteArray.size_append, ByteArray.size_append, ByteArray.size_append, ByteArray.size_append, ByteArray.size_append, ByteArray.size_append, bs, bs, bs, bs, bs, bs]; rfl
theorem enc_val (d : Nat) (hd : 1000 ≤ d) {kd sq a b c e : Int} {body : ByteArray} (h : RecOK kd sq a b c e body) : record_Encode (d + 300) kd sq a b c e body = some (encB kd sq a b c e body, 0) := by
  obtain ⟨h1, h2, h3, h4, h5, h6, h7⟩ := h
  have hb64 : body.size ≤ 64 := by rw [h7]; split <;> omega
  unfold record_Encode
  rw [decide_eq_false (show ¬ kd < 0 by omega), cond_false, decide_eq_false (show ¬ 6 < kd by omega), cond_false, decide_eq_false (show ¬ sq < 0 by omega), cond_false, decide_eq_false (show ¬ 1099511627776 < sq by omega), cond_false,
    decide_eq_false (show ¬ a < 0 by omega), cond_false, decide_eq_false (show ¬ 65535 < a by omega), cond_false, decide_eq_false (show ¬ b < 0 by omega), cond_false, decide_eq_false (show ¬ 65535 < b by omega), cond_false,
    decide_eq_false (show ¬ c < 0 by omega), cond_false, decide_eq_false (show ¬ 1099511627776 < c by omega), cond_false, decide_eq_false (show ¬ e < 0 by omega), cond_false, decide_eq_false (show ¬ 65535 < e by omega), cond_false,
    decide_eq_true h1.1, Bool.not_true, cond_false, blocks_val _ kd h1, optb_some]
  have hsz : sizeI body = wrap64 (wrap64 ((if kd = 4 then (2 : Int) else 1) - 1) * 64) := by
    rw [sizeI_eq, h7]
    by_cases c4 : kd = 4
    · rw [if_pos c4, if_pos c4]; kernel_rfl
    · rw [if_neg c4, if_neg c4]; kernel_rfl
  rw [decide_eq_true hsz, Bool.not_true, cond_false, eqG_self, eqG_self, eqG_self, put_ok1 d (n := kd) (by omega), optb_some, decide_eq_true (by rw [bs]; decide), cond_true,
    eqG_self, eqG_self, eqG_self, put_ok6 d (n := sq) (by omega), optb_some, decide_eq_true (by rw [ByteArray.size_append, bs, bs]; decide), cond_true]
  dsimp only
  rw [eqG_self, eqG_self, eqG_self, put_ok2 d (n := a) (by omega), optb_some, decide_eq_true (by rw [ByteArray.size_append, ByteArray.size_append, bs, bs, bs]; decide), cond_true,
    eqG_self, eqG_self, eqG_self, put_ok2 d (n := b) (by omega), optb_some, decide_eq_true (by rw [ByteArray.size_append, ByteArray.size_append, ByteArray.size_append, bs, bs, bs, bs]; decide), cond_true,
    eqG_self, eqG_self, eqG_self, put_ok6 d (n := c) (by omega), optb_some, decide_eq_true (by rw [ByteArray.size_append, ByteArray.size_append, ByteArray.size_append, ByteArray.size_append, bs, bs, bs, bs, bs]; decide), cond_true,
    eqG_self, eqG_self, eqG_self, put_ok2 d (n := e) (by omega), optb_some, decide_eq_true (by rw [ByteArray.size_append, ByteArray.size_append, ByteArray.size_append, ByteArray.size_append, ByteArray.size_append, bs, bs, bs, bs, bs, bs]; decide), cond_true]
  have hh := headB_size kd sq a b c e
  have hcr := sum_eq d false [headB kd sq a b c e, body] (by simp only [List.length_cons, List.length_nil]; omega) (by simp only [List.length_cons, List.length_nil]; omega) (fun p hp => by
    rcases List.mem_cons.1 hp with rfl | hp
    · omega
    · rw [List.mem_singleton] at hp; subst hp; omega)
  have hr := I_range (ones ^^^ updAll ones [headB kd sq a b c e, body])
  show optb (crc_Sum (d + 300) false [headB kd sq a b c e, body]) _ = _
  rw [hcr, optb_some]
  show optb (nums_Put (d + 300) (wrap64 (sumV kd sq a b c e body)) 4) _ = _
  have hsv : 0 ≤ sumV kd sq a b c e body ∧ sumV kd sq a b c e body ≤ 4294967295 := hr
  rw [w64 (n := sumV kd sq a b c e body) (by omega) (by omega), put_ok4 d (by omega), optb_some]
  show (bif decide ((headB kd sq a b c e).size + _ ≤ _) then _ else _) = _
  rw [decide_eq_true (by rw [hh, bs]; decide), cond_true, zero39, optb_some]
  show (bif decide ((headB kd sq a b c e ++ _).size + _ ≤ _) then (bif decide ((headB kd sq a b c e ++ _ ++ _).size + _ ≤ _) then _ else _) else _) = _
  have hz : z39.size = 39 := rfl
  rw [decide_eq_true (by rw [ByteArray.size_append, hh, bs, hz]; decide), cond_true, decide_eq_true (by rw [ByteArray.size_append, ByteArray.size_append, hh, bs, hz]; omega), cond_true]
  rfl
theorem encB_size {kd sq a b c e : Int} {body : ByteArray} (h : RecOK kd sq a b c e body) : (encB kd sq a b c e body).size = if kd = 4 then 128 else 64 := by
  unfold encB
  have hz : z39.size = 39 := rfl
  rw [ByteArray.size_append, ByteArray.size_append, ByteArray.size_append, headB_size, bs, hz, h.hy]
  split <;> omega
theorem goes_ok (d : Nat) (hd : 1000 ≤ d) : corbeltop_goes (d + 300) = some true := by
  have he := enc_val d hd (kd := 6) (sq := 1) (a := 0) (b := 0) (c := 0) (e := 0) (body := ⟨#[]⟩) ⟨by omega, by omega, by omega, by omega, by omega, by omega, rfl⟩
  have hs := encB_size (kd := 6) (sq := 1) (a := 0) (b := 0) (c := 0) (e := 0) (body := ⟨#[]⟩) ⟨by omega, by omega, by omega, by omega, by omega, by omega, rfl⟩
  generalize encB 6 1 0 0 0 0 ⟨#[]⟩ = t at he hs
  have hs' : sizeI t = 64 := by rw [sizeI_eq, hs]; rfl
  unfold corbeltop_goes corbeltop_goes_i5_0_j0
  rw [decide_eq_true (show (0 : Int) ≤ 1 by omega), decide_eq_true (show (1 : Int) ≤ 1 by omega), decide_eq_true (show (1 : Int) ≤ 1099511627776 by omega), Bool.and_self, Bool.and_self, cond_true, he]
  dsimp only
  rw [optb_some]
  dsimp only
  rw [decide_eq_true (rfl : (0 : Int) = 0), Bool.not_true, cond_false]
  unfold corbeltop_goes_j0 corbeltop_goes_k1
  rw [cond_false, hs']
  unfold corbeltop_goes_i8_2_j0
  rw [eqG_self, eqG_self, eqG_self, eqG_self, eqG_self, eqG_self, eqG_self, eqG_self, eqG_self, eqG_self, eqG_self]
  refine Eq.trans (b := some true) ?_ rfl
  kernel_rfl
/-! ### and read again -/
theorem ext_skip (p s : ByteArray) {i j : Nat} (h : p.size ≤ i) : (p ++ s).extract i j = s.extract (i - p.size) (j - p.size) := by
  rw [ByteArray.extract_append]
  have e : p.extract i j = ByteArray.empty := by
    apply ByteArray.ext
    rw [ByteArray.data_extract]
    exact Array.extract_empty_of_size_le_start (by rw [ByteArray.size_data]; exact h)
  rw [e, ByteArray.empty_append]
theorem ext_take (p s : ByteArray) {j : Nat} (h : j = p.size) : (p ++ s).extract 0 j = p := ByteArray.extract_append_eq_left h
theorem empty39 (d : Nat) : xor_Empty (d + 300) z39 = some true := by kernel_rfl
theorem enc_flat (kd sq a b c e : Int) (body rest : ByteArray) : encB kd sq a b c e body ++ rest = (⟨#[67, 66]⟩ : ByteArray) ++ (bytesOf (be kd 1) ++ (bytesOf (be sq 6) ++ (bytesOf (be a 2) ++ (bytesOf (be b 2) ++ (bytesOf (be c 6) ++ (bytesOf (be e 2) ++ (bytesOf (be (sumV kd sq a b c e body) 4) ++ (z39 ++ (body ++ rest))))))))) := by
  unfold encB headB
  simp only [ByteArray.append_assoc]
theorem dec_val (d : Nat) (hd : 1000 ≤ d) {kd sq a b c e : Int} {body : ByteArray} (h : RecOK kd sq a b c e body) (rest : ByteArray) (hrest : rest.size ≤ 1099511627776) :
    record_Decode (d + 300) (encB kd sq a b c e body ++ rest) = some ((kd, (sq, (a, (b, (c, (e, body)))))), ((if kd = 4 then 2 else 1), 0)) := by
  obtain ⟨h1, h2, h3, h4, h5, h6, h7⟩ := h
  have hsz := encB_size (kd := kd) (sq := sq) (a := a) (b := b) (c := c) (e := e) (body := body) ⟨h1, h2, h3, h4, h5, h6, h7⟩
  have hz : z39.size = 39 := rfl
  have hm : (⟨#[67, 66]⟩ : ByteArray).size = 2 := rfl
  have hh := headB_size kd sq a b c e
  have hfl := enc_flat kd sq a b c e body rest
  have hN : (encB kd sq a b c e body ++ rest).size = (if kd = 4 then 128 else 64) + rest.size := by rw [ByteArray.size_append, hsz]
  have hN1 : 64 ≤ (encB kd sq a b c e body ++ rest).size := by rw [hN]; split <;> omega
  have hN2 : (encB kd sq a b c e body ++ rest).size ≤ 2000000000000 := by rw [hN]; split <;> omega
  have xh : (encB kd sq a b c e body ++ rest).extract 0 21 = headB kd sq a b c e := by
    unfold encB
    rw [ByteArray.append_assoc, ByteArray.append_assoc, ByteArray.append_assoc, ext_take _ _ hh.symm]
  have x9 : (encB kd sq a b c e body ++ rest).extract 64 (64 + body.size) = body := by
    unfold encB
    rw [ByteArray.append_assoc, ext_skip _ _ (by rw [ByteArray.size_append, ByteArray.size_append, hh, bs, hz]; omega), ByteArray.size_append, ByteArray.size_append, hh, bs, hz]
    exact ext_take _ _ (by omega)
  have x0 : (encB kd sq a b c e body ++ rest).extract 0 2 = (⟨#[67, 66]⟩ : ByteArray) := by rw [hfl]; exact ext_take _ _ rfl
  have x1 : (encB kd sq a b c e body ++ rest).extract 2 3 = bytesOf (be kd 1) := by
    rw [hfl, ext_skip _ _ (by rw [hm]; omega), hm]; exact ext_take _ _ (by rw [bs])
  have x2 : (encB kd sq a b c e body ++ rest).extract 3 9 = bytesOf (be sq 6) := by
    rw [hfl, ext_skip _ _ (by rw [hm]; omega), hm, ext_skip _ _ (by rw [bs]; omega), bs]; exact ext_take _ _ (by rw [bs])
  have x3 : (encB kd sq a b c e body ++ rest).extract 9 11 = bytesOf (be a 2) := by
    rw [hfl, ext_skip _ _ (by rw [hm]; omega), hm, ext_skip _ _ (by rw [bs]; omega), bs, ext_skip _ _ (by rw [bs]; omega), bs]; exact ext_take _ _ (by rw [bs])
  have x4 : (encB kd sq a b c e body ++ rest).extract 11 13 = bytesOf (be b 2) := by
    rw [hfl, ext_skip _ _ (by rw [hm]; omega), hm, ext_skip _ _ (by rw [bs]; omega), bs, ext_skip _ _ (by rw [bs]; omega), bs, ext_skip _ _ (by rw [bs]; omega), bs]; exact ext_take _ _ (by rw [bs])
  have x5 : (encB kd sq a b c e body ++ rest).extract 13 19 = bytesOf (be c 6) := by
    rw [hfl, ext_skip _ _ (by rw [hm]; omega), hm, ext_skip _ _ (by rw [bs]; omega), bs, ext_skip _ _ (by rw [bs]; omega), bs, ext_skip _ _ (by rw [bs]; omega), bs, ext_skip _ _ (by rw [bs]; omega), bs]; exact ext_take _ _ (by rw [bs])
  have x6 : (encB kd sq a b c e body ++ rest).extract 19 21 = bytesOf (be e 2) := by
    rw [hfl, ext_skip _ _ (by rw [hm]; omega), hm, ext_skip _ _ (by rw [bs]; omega), bs, ext_skip _ _ (by rw [bs]; omega), bs, ext_skip _ _ (by rw [bs]; omega), bs, ext_skip _ _ (by rw [bs]; omega), bs, ext_skip _ _ (by rw [bs]; omega), bs]; exact ext_take _ _ (by rw [bs])
  have x7 : (encB kd sq a b c e body ++ rest).extract 21 25 = bytesOf (be (sumV kd sq a b c e body) 4) := by
    rw [hfl, ext_skip _ _ (by rw [hm]; omega), hm, ext_skip _ _ (by rw [bs]; omega), bs, ext_skip _ _ (by rw [bs]; omega), bs, ext_skip _ _ (by rw [bs]; omega), bs, ext_skip _ _ (by rw [bs]; omega), bs, ext_skip _ _ (by rw [bs]; omega), bs, ext_skip _ _ (by rw [bs]; omega), bs]; exact ext_take _ _ (by rw [bs])
  have x8 : (encB kd sq a b c e body ++ rest).extract 25 64 = z39 := by
    rw [hfl, ext_skip _ _ (by rw [hm]; omega), hm, ext_skip _ _ (by rw [bs]; omega), bs, ext_skip _ _ (by rw [bs]; omega), bs, ext_skip _ _ (by rw [bs]; omega), bs, ext_skip _ _ (by rw [bs]; omega), bs, ext_skip _ _ (by rw [bs]; omega), bs, ext_skip _ _ (by rw [bs]; omega), bs, ext_skip _ _ (by rw [bs]; omega), bs]; exact ext_take _ _ (by rw [hz])
  have hN4 : (if kd = 4 then (128 : Nat) else 64) ≤ (encB kd sq a b c e body ++ rest).size := by rw [hN]; omega
  generalize encB kd sq a b c e body ++ rest = s at hN hN1 hN2 xh x9 x0 x1 x2 x3 x4 x5 x6 x7 x8 hN4 hfl ⊢
  have hS : sizeI s = (s.size : Int) := sizeI_eq s
  have hne : s ≠ (⟨#[]⟩ : ByteArray) := fun e => by rw [e] at hN1; revert hN1; decide
  unfold record_Decode
  rw [decide_eq_false hne, cond_false, hS, decide_eq_false (show ¬ (s.size : Int) < 64 by omega), cond_false, decide_eq_true (show (2 : Int) ≤ s.size by omega), cond_true,
    show s.extract (0 : Int).toNat (2 : Int).toNat = _ from x0, decide_eq_true rfl, Bool.not_true, cond_false, decide_eq_true (show (64 : Int) ≤ s.size by omega), cond_true,
    show s.extract (25 : Int).toNat (64 : Int).toNat = _ from x8, empty39, optb_some, Bool.not_true, cond_false, decide_eq_true (show (3 : Int) ≤ s.size by omega), cond_true,
    show s.extract (2 : Int).toNat (3 : Int).toNat = _ from x1]
  try dsimp only
  rw [eqG_self, eqG_self, eqG_self, eqG_self, eqG_self, eqG_self, eqG_self, eqG_self, cond_true, eqG_self, get_be d kd 1 (by omega) (by omega) (by omega) (by show kd < 256; omega), optb_some,
    decide_eq_true (show (9 : Int) ≤ s.size by omega), cond_true, show s.extract (3 : Int).toNat (9 : Int).toNat = _ from x2]
  try dsimp only
  rw [eqG_self, eqG_self, eqG_self, eqG_self, eqG_self, eqG_self, eqG_self, eqG_self, cond_true, eqG_self, get_be d sq 6 (by omega) (by omega) (by omega) (by show sq < 281474976710656; omega), optb_some,
    decide_eq_true (show (11 : Int) ≤ s.size by omega), cond_true, show s.extract (9 : Int).toNat (11 : Int).toNat = _ from x3]
  try dsimp only
  rw [eqG_self, eqG_self, eqG_self, eqG_self, eqG_self, eqG_self, eqG_self, eqG_self, cond_true, eqG_self, get_be d a 2 (by omega) (by omega) (by omega) (by show a < 65536; omega), optb_some,
    decide_eq_true (show (13 : Int) ≤ s.size by omega), cond_true, show s.extract (11 : Int).toNat (13 : Int).toNat = _ from x4]
  try dsimp only
  rw [eqG_self, eqG_self, eqG_self, eqG_self, eqG_self, eqG_self, eqG_self, eqG_self, cond_true, eqG_self, get_be d b 2 (by omega) (by omega) (by omega) (by show b < 65536; omega), optb_some,
    decide_eq_true (show (19 : Int) ≤ s.size by omega), cond_true, show s.extract (13 : Int).toNat (19 : Int).toNat = _ from x5]
  try dsimp only
  rw [eqG_self, eqG_self, eqG_self, eqG_self, eqG_self, eqG_self, eqG_self, eqG_self, cond_true, eqG_self, get_be d c 6 (by omega) (by omega) (by omega) (by show c < 281474976710656; omega), optb_some,
    decide_eq_true (show (21 : Int) ≤ s.size by omega), cond_true, show s.extract (19 : Int).toNat (21 : Int).toNat = _ from x6]
  try dsimp only
  rw [eqG_self, eqG_self, eqG_self, eqG_self, eqG_self, eqG_self, eqG_self, eqG_self, cond_true, eqG_self, get_be d e 2 (by omega) (by omega) (by omega) (by show e < 65536; omega), optb_some, blocks_val _ kd h1, optb_some]
  try dsimp only
  rw [decide_eq_false (show ¬ kd < 0 by omega), cond_false, decide_eq_false (show ¬ 6 < kd by omega), cond_false, decide_eq_false (show ¬ sq < 0 by omega), cond_false, decide_eq_false (show ¬ 1099511627776 < sq by omega), cond_false,
    decide_eq_false (show ¬ a < 0 by omega), cond_false, decide_eq_false (show ¬ 65535 < a by omega), cond_false, decide_eq_false (show ¬ b < 0 by omega), cond_false, decide_eq_false (show ¬ 65535 < b by omega), cond_false,
    decide_eq_false (show ¬ c < 0 by omega), cond_false, decide_eq_false (show ¬ 1099511627776 < c by omega), cond_false, decide_eq_false (show ¬ e < 0 by omega), cond_false, decide_eq_false (show ¬ 65535 < e by omega), cond_false,
    decide_eq_true h1.1, Bool.not_true, cond_false]
  have hw : wrap64 ((if kd = 4 then (2 : Int) else 1) * 64) = ((64 + body.size : Nat) : Int) := by
    rw [w64 (by split <;> omega) (by split <;> omega), h7]
    by_cases c4 : kd = 4
    · rw [if_pos c4, if_pos c4]; rfl
    · rw [if_neg c4, if_neg c4]; rfl
  have hbs : 64 + body.size ≤ s.size := by rw [h7]; by_cases c4 : kd = 4 <;> simp only [c4, if_true, if_false] at hN4 ⊢ <;> omega
  have hr := I_range (ones ^^^ updAll ones [headB kd sq a b c e, body])
  have hsv : 0 ≤ sumV kd sq a b c e body ∧ sumV kd sq a b c e body ≤ 4294967295 := hr
  have hb64 : body.size ≤ 64 := by rw [h7]; split <;> omega
  have hcr := sum_eq d false [headB kd sq a b c e, body] (by simp only [List.length_cons, List.length_nil]; omega) (by simp only [List.length_cons, List.length_nil]; omega) (fun p hp => by
    rcases List.mem_cons.1 hp with rfl | hp
    · omega
    · rw [List.mem_singleton] at hp; subst hp; omega)
  rw [hw, decide_eq_false (show ¬ (s.size : Int) < ((64 + body.size : Nat) : Int) by omega), cond_false, decide_eq_true (show (64 : Int) ≤ ((64 + body.size : Nat) : Int) by omega), decide_eq_true (show ((64 + body.size : Nat) : Int) ≤ s.size by omega), Bool.and_self, cond_true,
    show s.extract (64 : Int).toNat ((64 + body.size : Nat) : Int).toNat = body from x9]
  try dsimp only
  rw [decide_eq_true (show (25 : Int) ≤ s.size by omega), cond_true, show s.extract (21 : Int).toNat (25 : Int).toNat = _ from x7, get_be d (sumV kd sq a b c e body) 4 (by omega) (by omega) (by omega) (by show sumV kd sq a b c e body < 4294967296; omega), optb_some, cond_true,
    show s.extract (0 : Int).toNat (21 : Int).toNat = _ from xh, hcr, optb_some]
  try dsimp only
  have hu : IntKind.u32.wrap (sumV kd sq a b c e body) = I (ones ^^^ updAll ones [headB kd sq a b c e, body]) := by
    unfold sumV
    rw [show I (ones ^^^ updAll ones [headB kd sq a b c e, body]) = (((ones ^^^ updAll ones [headB kd sq a b c e, body]).toNat : Nat) : Int) from rfl, wrap_I]; rfl
  rw [decide_eq_true hu, Bool.not_true, cond_false]
def blkB (kd sq a b c e : Int) (body : ByteArray) : ByteArray := (headB kd sq a b c e ++ bytesOf (be (sumV kd sq a b c e body) 4)) ++ z39
theorem ext_all (p : ByteArray) {j : Nat} (h : j = p.size) : p.extract 0 j = p := by
  have := ext_take p ByteArray.empty h
  rwa [ByteArray.append_empty] at this
theorem blk_flat (kd sq a b c e : Int) (body : ByteArray) : blkB kd sq a b c e body = (⟨#[67, 66]⟩ : ByteArray) ++ (bytesOf (be kd 1) ++ (bytesOf (be sq 6) ++ (bytesOf (be a 2) ++ (bytesOf (be b 2) ++ (bytesOf (be c 6) ++ (bytesOf (be e 2) ++ (bytesOf (be (sumV kd sq a b c e body) 4) ++ z39))))))) := by
  unfold blkB headB
  simp only [ByteArray.append_assoc]
theorem blk_of (kd sq a b c e : Int) (body : ByteArray) : (encB kd sq a b c e body).extract 0 64 = blkB kd sq a b c e body := by
  unfold encB blkB
  exact ext_take _ _ (by rw [ByteArray.size_append, ByteArray.size_append, headB_size, bs]; rfl)
theorem ext_all' (p : ByteArray) {i j : Nat} (hi : i = 0) (h : j = p.size) : p.extract i j = p := by rw [hi]; exact ext_all p h
theorem dec_half (d : Nat) (hd : 1000 ≤ d) {kd sq a b c e : Int} {body : ByteArray} (h : RecOK kd sq a b c e body) (c4 : kd = 4) :
    ∃ z n, record_Decode (d + 300) (blkB kd sq a b c e body) = some (z, (n, 10)) := by
  obtain ⟨h1, h2, h3, h4, h5, h6, h7⟩ := h
  have hz : z39.size = 39 := rfl
  have hm : (⟨#[67, 66]⟩ : ByteArray).size = 2 := rfl
  have hh := headB_size kd sq a b c e
  have hfl := blk_flat kd sq a b c e body
  have hN : (blkB kd sq a b c e body).size = 64 := by unfold blkB; rw [ByteArray.size_append, ByteArray.size_append, hh, bs, hz]
  have x0 : (blkB kd sq a b c e body).extract 0 2 = (⟨#[67, 66]⟩ : ByteArray) := by rw [hfl]; exact ext_take _ _ rfl
  have x1 : (blkB kd sq a b c e body).extract 2 3 = bytesOf (be kd 1) := by
    rw [hfl, ext_skip _ _ (by rw [hm]; omega), hm]; exact ext_take _ _ (by rw [bs])
  have x2 : (blkB kd sq a b c e body).extract 3 9 = bytesOf (be sq 6) := by
    rw [hfl, ext_skip _ _ (by rw [hm]; omega), hm, ext_skip _ _ (by rw [bs]; omega), bs]; exact ext_take _ _ (by rw [bs])
  have x3 : (blkB kd sq a b c e body).extract 9 11 = bytesOf (be a 2) := by
    rw [hfl, ext_skip _ _ (by rw [hm]; omega), hm, ext_skip _ _ (by rw [bs]; omega), bs, ext_skip _ _ (by rw [bs]; omega), bs]; exact ext_take _ _ (by rw [bs])
  have x4 : (blkB kd sq a b c e body).extract 11 13 = bytesOf (be b 2) := by
    rw [hfl, ext_skip _ _ (by rw [hm]; omega), hm, ext_skip _ _ (by rw [bs]; omega), bs, ext_skip _ _ (by rw [bs]; omega), bs, ext_skip _ _ (by rw [bs]; omega), bs]; exact ext_take _ _ (by rw [bs])
  have x5 : (blkB kd sq a b c e body).extract 13 19 = bytesOf (be c 6) := by
    rw [hfl, ext_skip _ _ (by rw [hm]; omega), hm, ext_skip _ _ (by rw [bs]; omega), bs, ext_skip _ _ (by rw [bs]; omega), bs, ext_skip _ _ (by rw [bs]; omega), bs, ext_skip _ _ (by rw [bs]; omega), bs]; exact ext_take _ _ (by rw [bs])
  have x6 : (blkB kd sq a b c e body).extract 19 21 = bytesOf (be e 2) := by
    rw [hfl, ext_skip _ _ (by rw [hm]; omega), hm, ext_skip _ _ (by rw [bs]; omega), bs, ext_skip _ _ (by rw [bs]; omega), bs, ext_skip _ _ (by rw [bs]; omega), bs, ext_skip _ _ (by rw [bs]; omega), bs, ext_skip _ _ (by rw [bs]; omega), bs]; exact ext_take _ _ (by rw [bs])
  have x7 : (blkB kd sq a b c e body).extract 21 25 = bytesOf (be (sumV kd sq a b c e body) 4) := by
    rw [hfl, ext_skip _ _ (by rw [hm]; omega), hm, ext_skip _ _ (by rw [bs]; omega), bs, ext_skip _ _ (by rw [bs]; omega), bs, ext_skip _ _ (by rw [bs]; omega), bs, ext_skip _ _ (by rw [bs]; omega), bs, ext_skip _ _ (by rw [bs]; omega), bs, ext_skip _ _ (by rw [bs]; omega), bs]; exact ext_take _ _ (by rw [bs])
  have x8 : (blkB kd sq a b c e body).extract 25 64 = z39 := by
    rw [hfl, ext_skip _ _ (by rw [hm]; omega), hm, ext_skip _ _ (by rw [bs]; omega), bs, ext_skip _ _ (by rw [bs]; omega), bs, ext_skip _ _ (by rw [bs]; omega), bs, ext_skip _ _ (by rw [bs]; omega), bs, ext_skip _ _ (by rw [bs]; omega), bs, ext_skip _ _ (by rw [bs]; omega), bs, ext_skip _ _ (by rw [bs]; omega), bs]; exact ext_all _ (by rw [hz])
  generalize blkB kd sq a b c e body = s at hN x0 x1 x2 x3 x4 x5 x6 x7 x8 hfl ⊢
  have hS : sizeI s = (s.size : Int) := sizeI_eq s
  have hne : s ≠ (⟨#[]⟩ : ByteArray) := fun e => by rw [e] at hN; revert hN; decide
  unfold record_Decode
  rw [decide_eq_false hne, cond_false, hS, decide_eq_false (show ¬ (s.size : Int) < 64 by omega), cond_false, decide_eq_true (show (2 : Int) ≤ s.size by omega), cond_true,
    show s.extract (0 : Int).toNat (2 : Int).toNat = _ from x0, decide_eq_true rfl, Bool.not_true, cond_false, decide_eq_true (show (64 : Int) ≤ s.size by omega), cond_true,
    show s.extract (25 : Int).toNat (64 : Int).toNat = _ from x8, empty39, optb_some, Bool.not_true, cond_false, decide_eq_true (show (3 : Int) ≤ s.size by omega), cond_true,
    show s.extract (2 : Int).toNat (3 : Int).toNat = _ from x1]
  try dsimp only
  rw [eqG_self, eqG_self, eqG_self, eqG_self, eqG_self, eqG_self, eqG_self, eqG_self, cond_true, eqG_self, get_be d kd 1 (by omega) (by omega) (by omega) (by show kd < 256; omega), optb_some,
    decide_eq_true (show (9 : Int) ≤ s.size by omega), cond_true, show s.extract (3 : Int).toNat (9 : Int).toNat = _ from x2]
  try dsimp only
  rw [eqG_self, eqG_self, eqG_self, eqG_self, eqG_self, eqG_self, eqG_self, eqG_self, cond_true, eqG_self, get_be d sq 6 (by omega) (by omega) (by omega) (by show sq < 281474976710656; omega), optb_some,
    decide_eq_true (show (11 : Int) ≤ s.size by omega), cond_true, show s.extract (9 : Int).toNat (11 : Int).toNat = _ from x3]
  try dsimp only
  rw [eqG_self, eqG_self, eqG_self, eqG_self, eqG_self, eqG_self, eqG_self, eqG_self, cond_true, eqG_self, get_be d a 2 (by omega) (by omega) (by omega) (by show a < 65536; omega), optb_some,
    decide_eq_true (show (13 : Int) ≤ s.size by omega), cond_true, show s.extract (11 : Int).toNat (13 : Int).toNat = _ from x4]
  try dsimp only
  rw [eqG_self, eqG_self, eqG_self, eqG_self, eqG_self, eqG_self, eqG_self, eqG_self, cond_true, eqG_self, get_be d b 2 (by omega) (by omega) (by omega) (by show b < 65536; omega), optb_some,
    decide_eq_true (show (19 : Int) ≤ s.size by omega), cond_true, show s.extract (13 : Int).toNat (19 : Int).toNat = _ from x5]
  try dsimp only
  rw [eqG_self, eqG_self, eqG_self, eqG_self, eqG_self, eqG_self, eqG_self, eqG_self, cond_true, eqG_self, get_be d c 6 (by omega) (by omega) (by omega) (by show c < 281474976710656; omega), optb_some,
    decide_eq_true (show (21 : Int) ≤ s.size by omega), cond_true, show s.extract (19 : Int).toNat (21 : Int).toNat = _ from x6]
  try dsimp only
  rw [eqG_self, eqG_self, eqG_self, eqG_self, eqG_self, eqG_self, eqG_self, eqG_self, cond_true, eqG_self, get_be d e 2 (by omega) (by omega) (by omega) (by show e < 65536; omega), optb_some, blocks_val _ kd h1, optb_some]
  try dsimp only
  rw [decide_eq_false (show ¬ kd < 0 by omega), cond_false, decide_eq_false (show ¬ 6 < kd by omega), cond_false, decide_eq_false (show ¬ sq < 0 by omega), cond_false, decide_eq_false (show ¬ 1099511627776 < sq by omega), cond_false,
    decide_eq_false (show ¬ a < 0 by omega), cond_false, decide_eq_false (show ¬ 65535 < a by omega), cond_false, decide_eq_false (show ¬ b < 0 by omega), cond_false, decide_eq_false (show ¬ 65535 < b by omega), cond_false,
    decide_eq_false (show ¬ c < 0 by omega), cond_false, decide_eq_false (show ¬ 1099511627776 < c by omega), cond_false, decide_eq_false (show ¬ e < 0 by omega), cond_false, decide_eq_false (show ¬ 65535 < e by omega), cond_false,
    decide_eq_true h1.1, Bool.not_true, cond_false]
  rw [if_pos c4, show wrap64 ((2 : Int) * 64) = 128 from by kernel_rfl, decide_eq_true (show (s.size : Int) < 128 by omega), cond_true]
  exact ⟨_, _, rfl⟩
/-! ### a run of records -/
abbrev Rec7 := Int × (Int × (Int × (Int × (Int × (Int × ByteArray)))))
def OK7 (x : Rec7) : Prop := RecOK x.1 x.2.1 x.2.2.1 x.2.2.2.1 x.2.2.2.2.1 x.2.2.2.2.2.1 x.2.2.2.2.2.2
def encR (x : Rec7) : ByteArray := encB x.1 x.2.1 x.2.2.1 x.2.2.2.1 x.2.2.2.2.1 x.2.2.2.2.2.1 x.2.2.2.2.2.2
def nb (x : Rec7) : Nat := if x.1 = 4 then 2 else 1
def encL : List Rec7 → ByteArray
  | [] => ByteArray.empty
  | x :: l => encR x ++ encL l
def nbL : List Rec7 → Nat
  | [] => 0
  | x :: l => nb x + nbL l
theorem encL_cons (x : Rec7) (l : List Rec7) : encL (x :: l) = encR x ++ encL l := rfl
theorem nbL_cons (x : Rec7) (l : List Rec7) : nbL (x :: l) = nb x + nbL l := rfl
def Stop (d : Nat) (t : ByteArray) : Prop := ∃ z n e, record_Decode (d + 300) t = some (z, (n, e)) ∧ e ≠ 0
theorem stop_nil (d : Nat) : Stop d ByteArray.empty := ⟨_, _, 13, by unfold record_Decode; rw [decide_eq_true (show ByteArray.empty = (⟨#[]⟩ : ByteArray) from rfl), cond_true], by omega⟩
theorem stop_half (d : Nat) (hd : 1000 ≤ d) (x : Rec7) (h : OK7 x) (c4 : x.1 = 4) : Stop d ((encR x).extract 0 64) := by
  unfold encR
  rw [blk_of]
  obtain ⟨z, n, hz⟩ := dec_half d hd h c4
  exact ⟨z, n, 10, hz, by omega⟩
theorem encR_size (x : Rec7) (h : OK7 x) : (encR x).size = 64 * nb x := by
  unfold encR nb
  rw [encB_size h]
  split <;> rfl
theorem encL_size : ∀ (l : List Rec7), (∀ x ∈ l, OK7 x) → (encL l).size = 64 * nbL l
  | [], _ => rfl
  | x :: l, h => by
    rw [encL_cons, nbL_cons, ByteArray.size_append, encR_size x (h x (List.mem_cons_self ..)), encL_size l (fun y hy => h y (List.mem_cons_of_mem _ hy))]; omega
theorem scan_l0 {R : Type} (e0 : Int → List Rec7 → Option R) (d : Nat) (hd : 1000 ≤ d) (s : ByteArray) (hs : s.size ≤ 1000000000) (tail : ByteArray) (hst : Stop d tail) : ∀ (X : List Rec7) (j n : Nat) (A : ByteArray) (out : List Rec7), (∀ x ∈ X, OK7 x) → s = A ++ (encL X ++ tail) → A.size = 64 * n → X.length < j → out.length + X.length ≤ 1000000 →
    record_Scan_l0 e0 (d + 300) s j n out = e0 ((n + nbL X : Nat) : Int) (out ++ X)
  | [], j, n, A, out, hX, hsA, hA, hj, ho => by
    obtain ⟨j, rfl⟩ : ∃ u, j = u + 1 := ⟨j - 1, by omega⟩
    have hsz : s.size = 64 * n + tail.size := by rw [hsA]; unfold encL; rw [ByteArray.empty_append, ByteArray.size_append, hA]
    obtain ⟨z, m, e, h1, h2⟩ := hst
    rw [record_Scan_l0]; unfold record_Scan_l0s
    rw [sizeI_eq, w64 (n := (n : Int) * 64) (by omega) (by omega), decide_eq_true (show (0 : Int) ≤ (n : Int) * 64 by omega), decide_eq_true (show (n : Int) * 64 ≤ s.size by omega), decide_eq_true (Int.le_refl (s.size : Int)), Bool.and_self, Bool.and_self, cond_true]
    have hx : s.extract ((n : Int) * 64).toNat ((s.size : Nat) : Int).toNat = tail := by
      rw [show ((n : Int) * 64).toNat = 64 * n by omega, show ((s.size : Nat) : Int).toNat = s.size from rfl, hsz]
      rw [hsA]; unfold encL
      rw [ByteArray.empty_append, ext_skip _ _ (by omega), hA]
      refine ext_all' _ ?_ ?_ <;> omega
    rw [hx, h1, optb_some]
    dsimp only
    rw [decide_eq_false h2, Bool.not_false, cond_true, List.append_nil]
    unfold nbL; rfl
  | x :: X, j, n, A, out, hX, hsA, hA, hj, ho => by
    obtain ⟨j, rfl⟩ : ∃ u, j = u + 1 := ⟨j - 1, by omega⟩
    have hx := hX x (List.mem_cons_self ..)
    have hes := encR_size x hx
    rw [List.length_cons] at hj ho
    have ih := scan_l0 e0 d hd s hs tail hst X j (n + nb x) (A ++ encR x) (out ++ [x]) (fun y hy => hX y (List.mem_cons_of_mem _ hy)) (by rw [hsA, encL_cons]; simp only [ByteArray.append_assoc]) (by rw [ByteArray.size_append, hA, hes]; omega) (by omega) (by rw [List.length_append, List.length_singleton]; omega)
    have hsz : s.size = 64 * n + (64 * nb x + (encL X ++ tail).size) := by rw [hsA, encL_cons, ByteArray.append_assoc, ByteArray.size_append, ByteArray.size_append, hA, hes]
    rw [record_Scan_l0]; unfold record_Scan_l0s
    rw [sizeI_eq, w64 (n := (n : Int) * 64) (by omega) (by omega), decide_eq_true (show (0 : Int) ≤ (n : Int) * 64 by omega), decide_eq_true (show (n : Int) * 64 ≤ s.size by omega), decide_eq_true (Int.le_refl (s.size : Int)), Bool.and_self, Bool.and_self, cond_true]
    have hxx : s.extract ((n : Int) * 64).toNat ((s.size : Nat) : Int).toNat = encR x ++ (encL X ++ tail) := by
      rw [show ((n : Int) * 64).toNat = 64 * n by omega, show ((s.size : Nat) : Int).toNat = s.size from rfl, hsz]
      rw [hsA, encL_cons, ext_skip _ _ (by omega), hA, ByteArray.append_assoc]
      refine ext_all' _ ?_ ?_
      · omega
      · rw [show (encR x ++ (encL X ++ tail)).size = (encR x).size + (encL X ++ tail).size from ByteArray.size_append, hes]; omega
    have hnb : nb x ≤ 2 := by unfold nb; split <;> omega
    rw [hxx]
    unfold encR
    rw [dec_val d hd hx _ (by omega), optb_some]
    dsimp only
    rw [decide_eq_true (rfl : (0 : Int) = 0), Bool.not_true, cond_false, decide_eq_true (by rw [List.length_singleton]; omega), cond_true]
    have hn : (if x.1 = 4 then (2 : Int) else 1) = (nb x : Int) := by unfold nb; split <;> rfl
    rw [hn, w64 (by omega) (by omega), show (n : Int) + (nb x : Int) = ((n + nb x : Nat) : Int) by omega]
    refine (show _ = _ from ih).trans ?_
    rw [List.append_assoc, show n + nb x + nbL X = n + nbL (x :: X) by rw [nbL_cons]; omega]; rfl
/-! ### the zone grows -/
theorem grow_val {R : Type} (e0 : Int → Int → List (Int × Int) → Option R) (k : Nat) (st ln n bl : Int) (h0 : 0 ≤ ln) (h1 : ln ≤ 1000) (n0 : 0 ≤ n) (n1 : n ≤ 1000) :
    corbeltop_TopWritten_i52_8_j0 e0 k 0 n [(st, ln)] bl = e0 ln 0 [(if ln + n = bl then 4 else st, ln + n)] := by
  unfold corbeltop_TopWritten_i52_8_j0 corbeltop_TopWritten_i52_8_j1
  rw [show ([(st, ln)] : List (Int × Int))[0]? = some (st, ln) from rfl, optb_some, optb_some, optb_some]
  dsimp only
  rw [w64 (n := ln + n) (by omega) (by omega), show List.set [(st, ln)] 0 (st, ln + n) = [(st, ln + n)] from rfl, show ([(st, ln + n)] : List (Int × Int))[0]? = some (st, ln + n) from rfl, optb_some]
  dsimp only
  by_cases c : ln + n = bl
  · rw [decide_eq_true c, cond_true, optb_some, if_pos c]; rfl
  · rw [decide_eq_false c, cond_false, if_neg c]
theorem count_val {R : Type} (e0 : Int → Int → Option R) (d : Nat) (ln : Int) : corbeltop_TopWritten_i65_8_l0 e0 (d + 300) (lenI [((0 : Int), ln)]) [((0 : Int), ln)] (d + 300) 0 0 0 = e0 0 0 := by kernel_rfl
theorem span_val (k : Nat) (a n bl : Int) (a0 : 0 ≤ a) (n0 : 1 ≤ n) (n1 : n ≤ 1000) (b0 : a ≤ bl) (b1 : bl ≤ 1000) : zone_span k a n bl = some (decide (a + n ≤ bl)) := by
  unfold zone_span
  rw [decide_eq_true a0, cond_true, decide_eq_true n0, cond_true, decide_eq_true b0, cond_true, w64 (by omega) (by omega)]
  congr 1
  by_cases c : a + n ≤ bl
  · rw [decide_eq_true c]; exact decide_eq_true (by omega)
  · rw [decide_eq_false c]; exact decide_eq_false (by omega)
def ZOK (bl st ln : Int) : Prop := (st = 0 ∧ ln = 0 ∨ st = 1 ∧ 0 < ln ∧ ln < bl ∨ st = 4 ∧ ln = bl)
theorem do_val {R : Type} (e0 : Int → Int → List (Int × Int) → Option R) (d : Nat) (bl st ln n : Int) (hz : ZOK bl st ln) (b0 : 1 ≤ bl) (b1 : bl ≤ 100) (n0 : 1 ≤ n) (n1 : n ≤ 2) :
    (ln + n ≤ bl → corbeltop_TopWritten_i8_5_j0 e0 (d + 300) [(st, ln)] bl 1 1 2 0 0 n = e0 ln 0 [(if ln + n = bl then 4 else 1, ln + n)]) ∧
    (¬ ln + n ≤ bl → ∃ f, f ≠ 0 ∧ corbeltop_TopWritten_i8_5_j0 e0 (d + 300) [(st, ln)] bl 1 1 2 0 0 n = e0 0 f [(st, ln)]) := by
  have hln : 0 ≤ ln ∧ ln ≤ bl := by unfold ZOK at hz; omega
  unfold corbeltop_TopWritten_i8_5_j0
  rw [decide_eq_true (show (0 : Int) ≤ 0 by omega), decide_eq_true (show (0 : Int) < lenI [(st, ln)] by rw [lenI_eq, List.length_singleton]; omega), Bool.and_self, cond_true, eqG_self, eqG_self, eqG_self, eqG_self, eqG_self, eqG_self, eqG_self, eqG_self, eqG_self, cond_true, eqG_self, eqG_self,
    decide_eq_false (show ¬ (2 : Int) = 0 by omega), cond_false, decide_eq_false (show ¬ (2 : Int) = 1 by omega), cond_false, decide_eq_true (rfl : (2 : Int) = 2), cond_true, span_val _ 0 n bl (by omega) n0 (by omega) (by omega) (by omega), optb_some]
  by_cases c0 : 0 + n ≤ bl
  case neg =>
    rw [decide_eq_false c0, Bool.not_false, cond_true]
    exact ⟨fun h => by omega, fun _ => ⟨2, by omega, rfl⟩⟩
  rw [decide_eq_true c0, Bool.not_true, cond_false, show ([(st, ln)] : List (Int × Int))[(0 : Int).toNat]? = some (st, ln) from rfl, optb_some]
  dsimp only
  by_cases c4 : st = 4
  · rw [decide_eq_true c4, cond_true]
    exact ⟨fun h => by unfold ZOK at hz; omega, fun _ => ⟨4, by omega, rfl⟩⟩
  rw [decide_eq_false c4, cond_false, optb_some]
  dsimp only
  rw [span_val _ ln n bl (by omega) n0 (by omega) (by omega) (by omega), optb_some]
  by_cases c1 : ln + n ≤ bl
  case neg =>
    rw [decide_eq_false c1, Bool.not_false, cond_true]
    exact ⟨fun h => absurd h c1, fun _ => ⟨2, by omega, rfl⟩⟩
  rw [decide_eq_true c1, Bool.not_true, cond_false]
  refine ⟨fun _ => ?_, fun h => absurd c1 h⟩
  unfold corbeltop_TopWritten_i33_7_j0
  rw [show ([(st, ln)] : List (Int × Int))[(0 : Int).toNat]? = some (st, ln) from rfl, optb_some]
  dsimp only
  rcases hz with ⟨rfl, rfl⟩ | ⟨rfl, h2, h3⟩ | ⟨h2, h3⟩
  · rw [show zone_opened (d + 300) 0 = some false from rfl, optb_some, cond_false, count_val]
    rw [optb_some]
    dsimp only
    rw [decide_eq_true (rfl : (0 : Int) = 0), cond_true, decide_eq_false (show ¬ (1 : Int) ≤ 0 by omega)]
    unfold corbeltop_TopWritten_i53_8_j0 corbeltop_TopWritten_i53_8_j1 corbeltop_TopWritten_i53_8_j2
    rw [cond_false, decide_eq_false (show ¬ (1 : Int) ≤ 0 by omega), cond_false]
    have := grow_val e0 (d + 300) 1 0 n bl (by omega) (by omega) (by omega) (by omega)
    refine Eq.trans ?_ this
    kernel_rfl
  · rw [show zone_opened (d + 300) 1 = some true from rfl, optb_some, cond_true, optb_some, optb_some]
    dsimp only
    rw [decide_eq_false (show ¬ (1 : Int) > 1 by omega), cond_false]
    exact grow_val e0 (d + 300) 1 ln n bl (by omega) (by omega) (by omega) (by omega)
  · exact absurd h2 c4
/-! ### what a block holds -/
theorem content_l0 {R : Type} (e0 : List Int → Option R) (k : Nat) (z b : Int) : ∀ (n j i : Nat) (s : List Int), i + n = 64 → n < j → s.length = 64 → ∃ s' : List Int, s'.length = 64 ∧ corbeltop_content_l0 e0 k z b j i s = e0 s'
  | 0, j, i, s, h, hj, hs => by
    obtain ⟨j, rfl⟩ : ∃ u, j = u + 1 := ⟨j - 1, by omega⟩
    refine ⟨s, hs, ?_⟩
    rw [corbeltop_content_l0]; unfold corbeltop_content_l0s
    rw [decide_eq_false (by omega), cond_false]
  | n + 1, j, i, s, h, hj, hs => by
    obtain ⟨j, rfl⟩ : ∃ u, j = u + 1 := ⟨j - 1, by omega⟩
    rw [corbeltop_content_l0]; unfold corbeltop_content_l0s
    have hi : i < s.length := by omega
    rw [decide_eq_true (show (i : Int) < 64 by omega), cond_true, decide_eq_true (show (0 : Int) ≤ i by omega), lenI_eq, decide_eq_true (show (i : Int) < s.length by omega), Bool.and_self, cond_true, Int.toNat_natCast, List.getElem?_eq_getElem hi, optb_some, w64 (n := (i : Int) + 1) (by omega) (by omega), show (i : Int) + 1 = ((i + 1 : Nat) : Int) by omega]
    exact content_l0 e0 k z b n j (i + 1) _ (by omega) (by omega) (by rw [List.length_set]; exact hs)
theorem content_val (d : Nat) (z b : Int) : ∃ t : ByteArray, corbeltop_content (d + 300) z b = some t ∧ t.size = 64 := by
  unfold corbeltop_content
  obtain ⟨s', h1, h2⟩ := content_l0 (fun s_7 => some (bytesOf s_7)) (d + 300) z b 64 (d + 300) 0 (List.replicate (64 : Int).toNat (Ty.zero (.int .u8))) (by omega) (by omega) (by rw [List.length_replicate]; rfl)
  exact ⟨bytesOf s', h2, by rw [bytesOf_size, h1]⟩
/-! ### one record more -/
theorem encL_app (x : Rec7) : ∀ (w : List Rec7), encL (w ++ [x]) = encL w ++ encR x
  | [] => by show encR x ++ ByteArray.empty = ByteArray.empty ++ encR x; rw [ByteArray.append_empty, ByteArray.empty_append]
  | y :: w => by rw [List.cons_append, encL_cons, encL_cons, encL_app x w, ByteArray.append_assoc]
theorem nbL_app (x : Rec7) : ∀ (w : List Rec7), nbL (w ++ [x]) = nbL w + nb x
  | [] => by show nb x + 0 = 0 + nb x; omega
  | y :: w => by rw [List.cons_append, nbL_cons, nbL_cons, nbL_app x w]; omega
def endsOf (w : List Rec7) : List Int := (List.range w.length).map fun i => ((nbL (w.take (i + 1)) : Nat) : Int)
theorem endsOf_len (w : List Rec7) : (endsOf w).length = w.length := by unfold endsOf; rw [List.length_map, List.length_range]
theorem endsOf_app (x : Rec7) (w : List Rec7) : endsOf (w ++ [x]) = endsOf w ++ [((nbL w + nb x : Nat) : Int)] := by
  unfold endsOf
  rw [List.length_append, List.length_singleton, List.range_succ, List.map_append, List.map_singleton]
  congr 1
  · refine List.map_congr_left fun i hi => ?_
    rw [List.mem_range] at hi
    rw [List.take_append_of_le_length (by omega)]
  · rw [List.take_of_length_le (by rw [List.length_append, List.length_singleton]; omega), nbL_app]
theorem nb_bounds (x : Rec7) : 1 ≤ nb x ∧ nb x ≤ 2 := by unfold nb; split <;> omega
theorem j2_val {R : Type} (e0 : Bool → List (Int × Int) → Option R) (e1 : ByteArray → List (Int × Int) → List Rec7 → List Int → Bool → List Rec7 → Option R) (e2 : List (Int × Int) → Option R) (d : Nat) (hd : 1000 ≤ d) (bl st : Int) (b0 : 1 ≤ bl) (b1 : bl ≤ 100) (w : List Rec7) (hw : ∀ x ∈ w, OK7 x) (hwl : w.length ≤ 1000) (hz : ZOK bl st (nbL w)) (x : Rec7) (hx : OK7 x) :
    ((nbL w : Int) + nb x ≤ bl → ∃ st', ZOK bl st' ((nbL w + nb x : Nat) : Int) ∧ corbeltop_TopWritten_j2b e0 e1 e2 (d + 300) bl (encL w) [(st, (nbL w : Int))] bl 1 1 w (endsOf w) x.1 x.2.1 x.2.2.1 x.2.2.2.1 x.2.2.2.2.1 x.2.2.2.2.2.1 x.2.2.2.2.2.2 = e1 (encL (w ++ [x])) [(st', ((nbL w + nb x : Nat) : Int))] (w ++ [x]) (endsOf (w ++ [x])) false [x]) ∧
    (¬ (nbL w : Int) + nb x ≤ bl → corbeltop_TopWritten_j2b e0 e1 e2 (d + 300) bl (encL w) [(st, (nbL w : Int))] bl 1 1 w (endsOf w) x.1 x.2.1 x.2.2.1 x.2.2.2.1 x.2.2.2.2.1 x.2.2.2.2.2.1 x.2.2.2.2.2.2 = e2 [(st, (nbL w : Int))]) := by
  have hnb := nb_bounds x
  have hss := encL_size w hw
  have hes := encR_size x hx
  have hln : (nbL w : Int) ≤ bl := by unfold ZOK at hz; omega
  obtain ⟨d1, d2⟩ := do_val (fun v_360 v_361 h_362 =>
    corbeltop_TopWritten_j3b (fun v_335 => corbeltop_TopWritten_k13 e0 e1 e2 (d + 300) v_335 h_362) (fun s_337 want_339 ends_340 hN_341 h_342 => corbeltop_TopWritten_k14 e0 e1 e2 (d + 300) s_337 h_362 want_339 ends_340 hN_341 h_342) (corbeltop_TopWritten_k15 e0 e1 e2 (d + 300) h_362) (d + 300) (encL w) (encR x) v_360 v_361 (decide ((nbL w : Int) + nb x ≤ bl)) w (endsOf w) x.1 x.2.1 x.2.2.1 x.2.2.2.1 x.2.2.2.2.1 x.2.2.2.2.2.1 x.2.2.2.2.2.2) d bl st (nbL w) (nb x) hz b0 b1 (by omega) (by omega)
  have hfit : decide (wrap64 (sizeI (encL w) + sizeI (encR x)) ≤ wrap64 (bl * 64)) = decide ((nbL w : Int) + nb x ≤ bl) := by
    rw [sizeI_eq, sizeI_eq, hss, hes, w64 (by omega) (by omega), w64 (n := bl * 64) (by omega) (by omega)]
    by_cases c : (nbL w : Int) + nb x ≤ bl
    · rw [decide_eq_true c]; exact decide_eq_true (by omega)
    · rw [decide_eq_false c]; exact decide_eq_false (by omega)
  have hn : wrap64 (Int.tdiv (sizeI (encR x)) 64) = (nb x : Int) := by
    rw [sizeI_eq, hes, show Int.tdiv ((64 * nb x : Nat) : Int) 64 = (nb x : Int) from by rw [Int.tdiv_eq_ediv_of_nonneg (by omega)]; omega, w64 (by omega) (by omega)]
  unfold corbeltop_TopWritten_j2b
  rw [show record_Encode (d + 300) x.1 x.2.1 x.2.2.1 x.2.2.2.1 x.2.2.2.2.1 x.2.2.2.2.2.1 x.2.2.2.2.2.2 = some (encR x, 0) from enc_val d hd hx, optb_some]
  try dsimp only
  rw [decide_eq_true (rfl : (0 : Int) = 0), Bool.not_true, cond_false, decide_eq_false (show ¬ lenI [(st, (nbL w : Int))] ≤ 0 by rw [lenI_eq, List.length_singleton]; omega), cond_false, hfit, hn]
  refine ⟨fun c => ?_, fun c => ?_⟩
  · refine ⟨if (nbL w : Int) + nb x = bl then 4 else 1, ?_, (d1 c).trans ?_⟩
    · unfold ZOK; split <;> omega
    · try dsimp only
      rw [decide_eq_true c]
      unfold corbeltop_TopWritten_j3b
      rw [decide_eq_true (rfl : (0 : Int) = 0), show (!(true == true)) = false from rfl, cond_false, cond_true, sizeI_eq, hss, w64 (n := (nbL w : Int) * 64) (by omega) (by omega), decide_eq_true (show (nbL w : Int) * 64 = ((64 * nbL w : Nat) : Int) by omega), Bool.not_true]
      unfold corbeltop_TopWritten_j4b
      rw [cond_false, cond_true, hss, hes, decide_eq_true (by omega), cond_true, decide_eq_true (by rw [List.length_singleton]; omega), cond_true]
      try dsimp only
      rw [decide_eq_true (by rw [endsOf_len, List.length_singleton]; omega), cond_true, sizeI_eq, ByteArray.size_append, hss, hes, show Int.tdiv ((64 * nbL w + 64 * nb x : Nat) : Int) 64 = ((nbL w + nb x : Nat) : Int) from by rw [Int.tdiv_eq_ediv_of_nonneg (by omega)]; omega, w64 (by omega) (by omega)]
      unfold corbeltop_TopWritten_k11 corbeltop_TopWritten_k14
      rw [encL_app, endsOf_app, show (nbL w : Int) + (nb x : Int) = ((nbL w + nb x : Nat) : Int) by omega]
  · obtain ⟨f, f0, hf⟩ := d2 c
    refine hf.trans ?_
    try dsimp only
    rw [decide_eq_false c]
    unfold corbeltop_TopWritten_j3b
    rw [decide_eq_false f0, show (!(false == false)) = false from rfl, cond_false, cond_false]
    unfold corbeltop_TopWritten_j4b
    rw [cond_false, cond_false]
    rfl
theorem m3 (x : Int) : 0 ≤ bitop .and .i64 x 3 ∧ bitop .and .i64 x 3 ≤ 3 := by
  have : bitop .and .i64 x 3 = x % 4 := and_mask x 2 (by decide)
  omega
theorem m255 (x : Int) : 0 ≤ bitop .and .i64 x 255 ∧ bitop .and .i64 x 255 ≤ 255 := by
  have : bitop .and .i64 x 255 = x % 256 := and_mask x 8 (by decide)
  omega
theorem m30 (x : Int) : 0 ≤ bitop .and .i64 x 1073741823 ∧ bitop .and .i64 x 1073741823 ≤ 1073741823 := by
  have : bitop .and .i64 x 1073741823 = x % 1073741824 := and_mask x 30 (by decide)
  omega
theorem l0_val {R : Type} (e0 : Bool → ByteArray → List (Int × Int) → List Rec7 → List Int → Option R) (e1 : ByteArray → List (Int × Int) → List Rec7 → List Int → Option R) (d : Nat) (hd : 1000 ≤ d) (bl : Int) (b0 : 1 ≤ bl) (b1 : bl ≤ 100) (LB : List (Int × (Int × (Int × Int)))) (r : Option R)
    (hend : ∀ (w : List Rec7) (st : Int), (∀ x ∈ w, OK7 x) → w.length ≤ 100 → ZOK bl st (nbL w) → e1 (encL w) [(st, (nbL w : Int))] w (endsOf w) = r) : ∀ (n j i : Nat) (w : List Rec7) (st : Int), i + n = 100 → n < j → (∀ x ∈ w, OK7 x) → w.length ≤ i → ZOK bl st (nbL w) →
    corbeltop_TopWritten_l0b e0 e1 (d + 300) LB bl bl 1 1 j (encL w) i [(st, (nbL w : Int))] w (endsOf w) = r
  | 0, j, i, w, st, h, hj, hw, hl, hz => by
    obtain ⟨j, rfl⟩ : ∃ u, j = u + 1 := ⟨j - 1, by omega⟩
    rw [corbeltop_TopWritten_l0b]; unfold corbeltop_TopWritten_l0bs
    rw [decide_eq_false (show ¬ (i : Int) < 100 by omega), cond_false, Bool.cond_self]
    exact hend w st hw (by omega) hz
  | n + 1, j, i, w, st, h, hj, hw, hl, hz => by
    obtain ⟨j, rfl⟩ : ∃ u, j = u + 1 := ⟨j - 1, by omega⟩
    rw [corbeltop_TopWritten_l0b]; unfold corbeltop_TopWritten_l0bs
    by_cases hi : i < LB.length
    case neg =>
      rw [lenI_eq, decide_eq_false (show ¬ (i : Int) < LB.length by omega), cond_false]
      exact hend w st hw (by omega) hz
    rw [lenI_eq, decide_eq_true (show (i : Int) < LB.length by omega), cond_true, decide_eq_true (show (i : Int) < 100 by omega), cond_true, decide_eq_true (show (0 : Int) ≤ i by omega), cond_true, Int.toNat_natCast, List.getElem?_eq_getElem hi, optb_some]
    try dsimp only
    rw [cond_true, optb_some, cond_true, optb_some, cond_true, optb_some]
    try dsimp only
    have a1 := m3 LB[i].1
    have a2 := m255 LB[i].2.1
    have a3 := m255 LB[i].2.2.1
    have a4 := m30 LB[i].2.2.2
    rw [w64 (n := 3 + bitop .and .i64 LB[i].1 3) (by omega) (by omega)]
    generalize bitop .and .i64 LB[i].1 3 = kk at a1 ⊢
    generalize bitop .and .i64 LB[i].2.1 255 = aa at a2 ⊢
    generalize bitop .and .i64 LB[i].2.2.1 255 = bb at a3 ⊢
    generalize bitop .and .i64 LB[i].2.2.2 1073741823 = cc at a4 ⊢
    have key : ∀ (body : ByteArray) (E0 : Bool → List (Int × Int) → Option R) (E1 : ByteArray → List (Int × Int) → List Rec7 → List Int → Bool → List Rec7 → Option R) (E2 : List (Int × Int) → Option R), body.size = (if 3 + kk = 4 then 64 else 0) →
        (∀ s h w' e a b, E1 s h w' e a b = corbeltop_TopWritten_l0b e0 e1 (d + 300) LB bl bl 1 1 j s ((i + 1 : Nat) : Int) h w' e) → (∀ h, E2 h = corbeltop_TopWritten_l0b e0 e1 (d + 300) LB bl bl 1 1 j (encL w) ((i + 1 : Nat) : Int) h w (endsOf w)) →
        corbeltop_TopWritten_j2b E0 E1 E2 (d + 300) bl (encL w) [(st, (nbL w : Int))] bl 1 1 w (endsOf w) (3 + kk) i aa bb cc 0 body = r := by
      intro body E0 E1 E2 hb h1 h2
      have hx : OK7 (3 + kk, ((i : Int), (aa, (bb, (cc, ((0 : Int), body)))))) := show RecOK (3 + kk) i aa bb cc 0 body from ⟨by omega, by omega, by omega, by omega, by omega, by omega, hb⟩
      obtain ⟨g1, g2⟩ := j2_val E0 E1 E2 d hd bl st b0 b1 w hw (by omega) hz (3 + kk, ((i : Int), (aa, (bb, (cc, ((0 : Int), body)))))) hx
      by_cases c : (nbL w : Int) + nb (3 + kk, ((i : Int), (aa, (bb, (cc, ((0 : Int), body)))))) ≤ bl
      · obtain ⟨st', hz', hg⟩ := g1 c
        refine (show _ = _ from hg).trans ?_
        rw [h1]
        have hnw := nbL_app (3 + kk, ((i : Int), (aa, (bb, (cc, ((0 : Int), body)))))) w
        rw [← hnw] at hz' ⊢
        exact l0_val e0 e1 d hd bl b0 b1 LB r hend n j (i + 1) _ st' (by omega) (by omega) (fun y hy => by
          rcases List.mem_append.1 hy with hy | hy
          · exact hw y hy
          · rw [List.mem_singleton] at hy; rw [hy]; exact hx) (by rw [List.length_append, List.length_singleton]; omega) hz'
      · refine (show _ = _ from g2 c).trans ?_
        rw [h2]
        exact l0_val e0 e1 d hd bl b0 b1 LB r hend n j (i + 1) w st (by omega) (by omega) hw (by omega) hz
    have e5 : wrap64 ((i : Int) + 1) = ((i + 1 : Nat) : Int) := w64 (by omega) (by omega)
    unfold corbeltop_TopWritten_j1b
    by_cases c4 : 3 + kk = 4
    · rw [decide_eq_true c4, cond_true]
      obtain ⟨t, ht, hts⟩ := content_val d i aa
      rw [ht, optb_some]
      refine key t _ _ _ (by rw [if_pos c4]; exact hts) (fun s h w' e a b => ?_) (fun h => ?_)
      · unfold corbeltop_TopWritten_k17 corbeltop_TopWritten_j5c; rw [e5]
      · unfold corbeltop_TopWritten_k18 corbeltop_TopWritten_j5d; rw [e5]
    · rw [decide_eq_false c4, cond_false]
      refine key _ _ _ _ (by rw [if_neg c4]; rfl) (fun s h w' e a b => ?_) (fun h => ?_)
      · unfold corbeltop_TopWritten_k17 corbeltop_TopWritten_j5c; rw [e5]
      · unfold corbeltop_TopWritten_k18 corbeltop_TopWritten_j5d; rw [e5]
theorem cut_in {x : Int} (hx : -9223372036854775808 ≤ x ∧ x ≤ 9223372036854775807) (n : Nat) (hn : n ≤ 100000) : ∃ c : Nat, c ≤ n ∧ Int.tmod (wrap64 (wrap64 (Int.tmod x ((n : Int) + 1) + n) + 1)) ((n : Int) + 1) = c := by
  have m0 := Int.lt_tmod_of_pos x (show (0 : Int) < (n : Int) + 1 by omega)
  have m1 := Int.tmod_lt_of_pos x (show (0 : Int) < (n : Int) + 1 by omega)
  rw [w64 (n := Int.tmod x ((n : Int) + 1) + n) (by omega) (by omega), w64 (n := Int.tmod x ((n : Int) + 1) + n + 1) (by omega) (by omega), tmod_pos (by omega)]
  have e0 := Int.emod_nonneg (Int.tmod x ((n : Int) + 1) + n + 1) (show (n : Int) + 1 ≠ 0 by omega)
  have e1 := Int.emod_lt_of_pos (Int.tmod x ((n : Int) + 1) + n + 1) (show (0 : Int) < (n : Int) + 1 by omega)
  exact ⟨((Int.tmod x ((n : Int) + 1) + n + 1) % ((n : Int) + 1)).toNat, by omega, by omega⟩
theorem tmod_pos' {a b : Int} (h : 0 ≤ a) : Int.tmod a b = a % b := Int.tmod_eq_emod_of_nonneg h
theorem l7_val {R : Type} (e0 : Int → Option R) (k : Nat) (z : Int) (w : List Rec7) (hw : w.length ≤ 1000) (hz : 0 ≤ z) : ∀ (n j i : Nat), i + n = w.length → n < j → (nbL (w.take i) : Int) ≤ z →
    ∃ m : Nat, m ≤ w.length ∧ corbeltop_TopWritten_l7b e0 k z (endsOf w) j i = e0 m ∧ (nbL (w.take m) : Int) ≤ z ∧ (m < w.length → z < (nbL (w.take (m + 1)) : Int))
  | 0, j, i, h, hj, hi => by
    obtain ⟨j, rfl⟩ : ∃ u, j = u + 1 := ⟨j - 1, by omega⟩
    refine ⟨i, by omega, ?_, hi, fun hh => by omega⟩
    rw [corbeltop_TopWritten_l7b]; unfold corbeltop_TopWritten_l7bs
    rw [lenI_eq, endsOf_len, decide_eq_false (by omega), cond_false]
  | n + 1, j, i, h, hj, hi => by
    obtain ⟨j, rfl⟩ : ∃ u, j = u + 1 := ⟨j - 1, by omega⟩
    have hil : i < w.length := by omega
    have hget : (endsOf w)[i]? = some ((nbL (w.take (i + 1)) : Nat) : Int) := by
      unfold endsOf
      rw [List.getElem?_map, List.getElem?_range hil]; rfl
    rw [corbeltop_TopWritten_l7b]; unfold corbeltop_TopWritten_l7bs
    rw [lenI_eq, endsOf_len, decide_eq_true (show (i : Int) < w.length by omega), cond_true, decide_eq_true (show (0 : Int) ≤ i by omega), Bool.and_self, cond_true, Int.toNat_natCast, hget, optb_some]
    by_cases c : ((nbL (w.take (i + 1)) : Nat) : Int) ≤ z
    · rw [decide_eq_true c, cond_true, w64 (by omega) (by omega), show (i : Int) + 1 = ((i + 1 : Nat) : Int) by omega]
      exact l7_val e0 k z w hw hz n j (i + 1) (by omega) (by omega) c
    · rw [decide_eq_false c, cond_false]
      exact ⟨i, by omega, rfl, hi, fun _ => by omega⟩
theorem encL_apps : ∀ (a b : List Rec7), encL (a ++ b) = encL a ++ encL b
  | [], b => by show encL b = ByteArray.empty ++ encL b; rw [ByteArray.empty_append]
  | x :: a, b => by rw [List.cons_append, encL_cons, encL_cons, encL_apps a b, ByteArray.append_assoc]
theorem nbL_apps : ∀ (a b : List Rec7), nbL (a ++ b) = nbL a + nbL b
  | [], b => by show nbL b = 0 + nbL b; omega
  | x :: a, b => by rw [List.cons_append, nbL_cons, nbL_cons, nbL_apps a b]; omega
theorem ext_past (p s : ByteArray) {j : Nat} (h : p.size ≤ j) : (p ++ s).extract 0 j = p ++ s.extract 0 (j - p.size) := by
  rw [ByteArray.extract_append, Nat.zero_sub]
  congr 1
  apply ByteArray.ext
  rw [ByteArray.data_extract]
  exact Array.extract_eq_self_of_le (by rw [ByteArray.size_data]; exact h)
theorem ext_none (p : ByteArray) : p.extract 0 0 = ByteArray.empty := by
  apply ByteArray.ext
  rw [ByteArray.data_extract]; simp
theorem cut_text (d : Nat) (hd : 1000 ≤ d) (w : List Rec7) (hw : ∀ x ∈ w, OK7 x) (m z : Nat) (hm : m ≤ w.length) (h1 : nbL (w.take m) ≤ z) (h2 : m < w.length → z < nbL (w.take (m + 1))) (h3 : z ≤ nbL w) :
    ∃ tail, (encL w).extract 0 (64 * z) = ByteArray.empty ++ (encL (w.take m) ++ tail) ∧ Stop d tail := by
  have hs : encL w = encL (w.take m) ++ encL (w.drop m) := by rw [← encL_apps, List.take_append_drop]
  have hn : nbL w = nbL (w.take m) + nbL (w.drop m) := by rw [← nbL_apps, List.take_append_drop]
  have ha := encL_size (w.take m) fun x hx => hw x (List.mem_of_mem_take hx)
  refine ⟨(encL (w.drop m)).extract 0 (64 * z - 64 * nbL (w.take m)), ?_, ?_⟩
  · rw [hs, ext_past _ _ (by rw [ha]; omega), ha, ByteArray.empty_append]
  · by_cases e : z = nbL (w.take m)
    · rw [show 64 * z - 64 * nbL (w.take m) = 0 by omega, ext_none]; exact stop_nil d
    · have hml : m < w.length := by
        rcases Nat.lt_or_ge m w.length with h | h
        · exact h
        · rw [List.drop_eq_nil_of_le h] at hn
          have : nbL ([] : List Rec7) = 0 := rfl
          omega
      have hz2 := h2 hml
      have hy := hw w[m] (List.getElem_mem hml)
      have hnb := nb_bounds w[m]
      have ht : nbL (w.take (m + 1)) = nbL (w.take m) + nb w[m] := by rw [List.take_succ_eq_append_getElem hml, nbL_app]
      have h4 : nb w[m] = 2 := by omega
      have hk4 : w[m].1 = 4 := by
        unfold nb at h4
        by_cases c : w[m].1 = 4
        · exact c
        · rw [if_neg c] at h4; omega
      rw [List.drop_eq_getElem_cons hml, encL_cons, show 64 * z - 64 * nbL (w.take m) = 64 by omega]
      have hes := encR_size w[m] hy
      have : (encR w[m] ++ encL (w.drop (m + 1))).extract 0 64 = (encR w[m]).extract 0 64 := by
        rw [ByteArray.extract_append, show 64 - (encR w[m]).size = 0 by rw [hes]; omega, Nat.zero_sub, ext_none, ByteArray.append_empty]
      rw [this]
      exact stop_half d hd w[m] hy hk4
theorem l10_val {R : Type} (e0 : Bool → Option R) (e1 : Option R) (k : Nat) (w : List Rec7) (hw : w.length ≤ 1000) (m : Nat) (hm : m ≤ w.length) : ∀ (n j i : Nat), i + n = m → n < j → corbeltop_TopWritten_l10b e0 e1 k m w (w.take m) j i = e1
  | 0, j, i, h, hj => by
    obtain ⟨j, rfl⟩ : ∃ u, j = u + 1 := ⟨j - 1, by omega⟩
    rw [corbeltop_TopWritten_l10b]; unfold corbeltop_TopWritten_l10bs
    rw [decide_eq_false (by omega), cond_false]
  | n + 1, j, i, h, hj => by
    obtain ⟨j, rfl⟩ : ∃ u, j = u + 1 := ⟨j - 1, by omega⟩
    have hi : i < w.length := by omega
    have hg : (w.take m)[i]? = some w[i] := by rw [List.getElem?_take_of_lt (by omega), List.getElem?_eq_getElem hi]
    rw [corbeltop_TopWritten_l10b]; unfold corbeltop_TopWritten_l10bs
    rw [decide_eq_true (show (i : Int) < m by omega), cond_true, lenI_eq, lenI_eq, List.length_take, Nat.min_eq_left hm, decide_eq_true (show (0 : Int) ≤ i by omega), decide_eq_true (show (i : Int) < m by omega), Bool.and_self, cond_true, Int.toNat_natCast, hg, optb_some, decide_eq_true (show (i : Int) < w.length by omega), Bool.and_self, cond_true, List.getElem?_eq_getElem hi, optb_some, decide_eq_true rfl, decide_eq_true rfl, decide_eq_true rfl, decide_eq_true rfl, decide_eq_true rfl, decide_eq_true rfl, decide_eq_true rfl]
    show (bif !true then _ else _) = _
    rw [Bool.not_true, cond_false, w64 (by omega) (by omega), show (i : Int) + 1 = ((i + 1 : Nat) : Int) by omega]
    exact l10_val e0 e1 k w hw m hm n j (i + 1) (by omega) (by omega)
theorem end_val (d : Nat) (hd : 1000 ≤ d) (cut : Int) (hcut : -9223372036854775808 ≤ cut ∧ cut ≤ 9223372036854775807) (bl st : Int) (b1 : bl ≤ 100) (w : List Rec7) (hw : ∀ x ∈ w, OK7 x) (hl : w.length ≤ 100) (hz : ZOK bl st (nbL w)) (hbl : 1 ≤ bl) (ma : Int) :
    corbeltop_TopWritten_k20 (d + 300) cut (encL w) [(st, (nbL w : Int))] ma w (endsOf w) = some true := by
  have hss := encL_size w hw
  have hln : (nbL w : Int) ≤ bl := by unfold ZOK at hz; omega
  unfold corbeltop_TopWritten_k20
  rw [lenI_eq, List.length_singleton, decide_eq_false (show ¬ ((1 : Nat) : Int) ≤ 0 by omega), cond_false, decide_eq_true (show (0 : Int) < ((1 : Nat) : Int) by omega), cond_true, show ([(st, (nbL w : Int))] : List (Int × Int))[(0 : Int).toNat]? = some (st, (nbL w : Int)) from rfl, optb_some]
  try dsimp only
  rw [sizeI_eq, hss, w64 (n := (nbL w : Int) * 64) (by omega) (by omega), decide_eq_true (show (nbL w : Int) * 64 = ((64 * nbL w : Nat) : Int) by omega), Bool.not_true, cond_false]
  unfold corbeltop_TopWritten_j6b
  rw [w64 (n := (nbL w : Int) + 1) (by omega) (by omega), decide_eq_false (show ¬ (nbL w : Int) + 1 = 0 by omega), cond_false, cond_false]
  try dsimp only
  have hlw : nbL w ≤ 100000 := by omega
  obtain ⟨z, hz1, hz2⟩ := cut_in hcut (nbL w) hlw
  rw [hz2]
  generalize hE : (fun k_442 : Int => cond _ _ _) = E
  obtain ⟨m, m1, m2, m3, m4⟩ := l7_val E (d + 300) (z : Int) w (by omega) (by omega) w.length (d + 300) 0 (by omega) (by omega) (by rw [List.take_zero]; show ((0 : Nat) : Int) ≤ _; omega)
  refine (show _ = _ from m2).trans ?_
  rw [← hE]
  try dsimp only
  obtain ⟨tail, t1, t2⟩ := cut_text d hd w hw m z m1 (by omega) (fun h => by have := m4 h; omega) hz1
  have hX : ∀ x ∈ w.take m, OK7 x := fun x hx => hw x (List.mem_of_mem_take hx)
  have hml : (w.take m).length = m := by rw [List.length_take]; omega
  have hsz : ((encL w).extract 0 (64 * z)).size ≤ 1000000000 := by rw [ByteArray.size_extract]; omega
  have hscan := scan_l0 (fun v_5 v_6 => some ((true, v_6), v_5)) d hd ((encL w).extract 0 (64 * z)) hsz tail t2 (w.take m) (d + 300) 0 ByteArray.empty [] hX t1 rfl (by omega) (by rw [List.length_nil]; omega)
  rw [w64 (n := (z : Int) * 64) (by omega) (by omega), decide_eq_true (show (0 : Int) ≤ (z : Int) * 64 by omega), sizeI_eq, hss, decide_eq_true (show (z : Int) * 64 ≤ ((64 * nbL w : Nat) : Int) by omega), Bool.and_self, cond_true,
    show (encL w).extract (0 : Int).toNat ((z : Int) * 64).toNat = (encL w).extract 0 (64 * z) from by rw [show ((z : Int) * 64).toNat = 64 * z by omega]; rfl]
  have hsc : record_Scan (d + 300) ((encL w).extract 0 (64 * z)) = some ((true, w.take m), (nbL (w.take m) : Int)) := by
    unfold record_Scan
    refine (show _ = _ from hscan).trans ?_
    rw [List.nil_append, Nat.zero_add]
  rw [hsc, optb_some]
  try dsimp only
  rw [lenI_eq, hml, decide_eq_true (rfl : (m : Int) = m), Bool.not_true, cond_false]
  have fin : corbeltop_TopWritten_k22 (corbeltop_TopWritten_k23 (d + 300)) (d + 300) m w true (w.take m) = some true := by
    unfold corbeltop_TopWritten_k22 corbeltop_TopWritten_j9b
    refine (show _ = _ from l10_val _ _ (d + 300) w (by omega) m m1 m (d + 300) 0 (by omega) (by omega)).trans ?_
    rfl
  by_cases c : 0 < m
  · have hget : (endsOf w)[m - 1]? = some ((nbL (w.take m) : Nat) : Int) := by
      unfold endsOf
      rw [List.getElem?_map, List.getElem?_range (by omega)]
      show some ((nbL (w.take (m - 1 + 1)) : Nat) : Int) = _
      rw [show m - 1 + 1 = m by omega]
    rw [decide_eq_true (show (0 : Int) < m by omega), cond_true, w64 (n := (m : Int) - 1) (by omega) (by omega), decide_eq_true (show (0 : Int) ≤ (m : Int) - 1 by omega), lenI_eq, endsOf_len, decide_eq_true (show (m : Int) - 1 < w.length by omega), Bool.and_self, cond_true, show ((m : Int) - 1).toNat = m - 1 by omega, hget, optb_some]
    try dsimp only
    rw [decide_eq_true rfl, Bool.not_true]
    unfold corbeltop_TopWritten_j8b
    rw [cond_false]
    exact fin
  · rw [decide_eq_false (show ¬ (0 : Int) < m by omega), cond_false]
    unfold corbeltop_TopWritten_j8b
    rw [cond_false]
    exact fin
theorem main (b : Bool) (LB : List (Int × (Int × (Int × Int)))) (blocks cut : Int) (hcut : -9223372036854775808 ≤ cut ∧ cut ≤ 9223372036854775807) : corbeltop_TopWritten (9700 + 300) b LB blocks cut = some true := by
  unfold corbeltop_TopWritten
  rw [goes_ok 9700 (by omega), optb_some, Bool.not_true, cond_false]
  try dsimp only
  have hb : 0 ≤ bitop .and .i64 blocks 63 ∧ bitop .and .i64 blocks 63 ≤ 63 := by
    have : bitop .and .i64 blocks 63 = blocks % 64 := and_mask blocks 6 (by decide)
    omega
  rw [w64 (n := 1 + bitop .and .i64 blocks 63) (by omega) (by omega)]
  generalize bitop .and .i64 blocks 63 = q at hb ⊢
  rw [decide_eq_false (show ¬ 1 + q < 1 by omega), cond_false, decide_eq_false (show ¬ 4096 < 1 + q by omega), cond_false]
  unfold corbeltop_TopWritten_i5_0_j0
  rw [cond_false, decide_eq_true (show (0 : Int) ≤ 1 by omega), decide_eq_true (show (1 : Int) ≤ 1 by omega), decide_eq_true (show (1 : Int) ≤ 1099511627776 by omega), Bool.and_self, Bool.and_self, cond_true]
  exact l0_val _ _ 9700 (by omega) (1 + q) (by omega) (by omega) LB (some true) (fun w st hw hl hz => end_val 9700 (by omega) cut hcut (1 + q) st (by omega) w hw hl hz (by omega) _) 100 (9700 + 300) 0 [] 0 (by omega) (by omega) (fun x hx => by cases hx) (Nat.le_refl _) (Or.inl ⟨rfl, rfl⟩)
/-- Records that are written into a zone as long as they fit are read again. -/
theorem TopWritten : TopWrittenPure := by
  intro x0 x1 x2 h0 h1 h2
  exact ⟨9700 + 300, main x0.1 x0.2 x1 x2 (wf_i64 h2)⟩
end Go.Proofs.YtibdnfknokkadaaDoor.Pure
