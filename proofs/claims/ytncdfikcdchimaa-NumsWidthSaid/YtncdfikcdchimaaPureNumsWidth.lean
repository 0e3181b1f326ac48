/- NumsWidth: the pure statement, over numbers and lists alone; no conditions. -/
import Derived.Test.YtncdfikcdchimaaStatNumsWidth
set_option linter.unusedVariables false
set_option linter.unusedSimpArgs false
namespace Go.Proofs.Ytncdfikcdchimaa.Pure
open Go Go.RowKit Go.Proofs.Ytncdfikcdchimaa.Ev
/-! ### whole numbers -/
theorem wf_i64 {n : Int} (h : Ty.wf (.int .i64) n) : -9223372036854775808 ≤ n ∧ n ≤ 9223372036854775807 := by
  have h : (Lit.int .i64 n).wf = true := h
  simpa [Lit.wf, IntKind.min, IntKind.max, IntKind.signed, IntKind.bits] using h
theorem w64 {n : Int} (h0 : -9223372036854775808 ≤ n) (h1 : n ≤ 9223372036854775807) : wrap64 n = n := by unfold wrap64; omega
theorem tdiv_pos {a b : Int} (ha : 0 ≤ a) : Int.tdiv a b = a / b := Int.tdiv_eq_ediv_of_nonneg ha
theorem tmod_pos {a b : Int} (ha : 0 ≤ a) : Int.tmod a b = a % b := Int.tmod_eq_emod_of_nonneg ha
theorem bytesOf_append (a b : List Int) : bytesOf a ++ bytesOf b = bytesOf (a ++ b) := by
  apply ByteArray.ext
  simp [bytesOf]
theorem cond_t {α : Type} {c : Bool} {a b : α} (h : c = true) : (bif c then a else b) = a := by rw [h]; rfl
theorem cond_f {α : Type} {c : Bool} {a b : α} (h : c = false) : (bif c then a else b) = b := by rw [h]; rfl
/-! ### bytes, the greatest first -/
def be (n : Int) : Nat → List Int
  | 0 => []
  | w + 1 => (n / 256 ^ w % 256) :: be n w
theorem be_length (n : Int) : ∀ w, (be n w).length = w
  | 0 => rfl
  | w + 1 => by simp [be, be_length n w]
theorem u8_wrap (x : Int) : IntKind.u8.wrap x = x % 256 := by simp [IntKind.wrap, IntKind.signed, IntKind.bits]
theorem be_range (n : Int) : ∀ w, ∀ x ∈ be n w, 0 ≤ x ∧ x < 256
  | 0, x, h => by simp [be] at h
  | w + 1, x, h => by
    rcases List.mem_cons.1 h with rfl | h
    · omega
    · exact be_range n w x h
def u8s (l : List Int) : List UInt8 := l.map fun n => UInt8.ofNat n.toNat
theorem bytesOf_data (l : List Int) : (bytesOf l).data = (u8s l).toArray := rfl
theorem toList_data (s : ByteArray) : s.toList = s.data.toList := by
  have loop : ∀ (i : Nat) (r : List UInt8), ByteArray.toList.loop s i r = r.reverse ++ s.data.toList.drop i := by
    intro i r
    fun_induction ByteArray.toList.loop s i r with
    | case1 i r h ih =>
      rw [ih, List.reverse_cons, List.append_assoc]
      congr 1
      have hi : i < s.data.toList.length := by simpa using h
      rw [List.drop_eq_getElem_cons hi]
      simp [ByteArray.get!, h]
    | case2 i r h =>
      have : s.data.toList.length ≤ i := by simpa using h
      rw [List.drop_eq_nil_of_le this, List.append_nil]
  unfold ByteArray.toList
  rw [loop]; simp
theorem bytesOf_toList (l : List Int) : (bytesOf l).toList = u8s l := by rw [toList_data, bytesOf_data]
theorem bytesOf_size (l : List Int) : (bytesOf l).size = l.length := by
  show (bytesOf l).data.size = _
  rw [bytesOf_data]; simp [u8s]
theorem bt_of (l : List Int) (i : Nat) {x : Int} (h : l[i]? = some x) (h0 : 0 ≤ x) (h1 : x < 256) : bt (bytesOf l) (i : Int) = x := by
  have hi : i < l.length := (List.getElem?_eq_some_iff.1 h).1
  have hx : l[i] = x := (List.getElem?_eq_some_iff.1 h).2
  unfold bt
  have hs : (i : Int).toNat < (bytesOf l).size := by rw [bytesOf_size]; simpa using hi
  rw [dif_pos hs]
  have e : (bytesOf l)[(i : Int).toNat]'hs = UInt8.ofNat x.toNat := by
    show (bytesOf l).data[(i : Int).toNat]'hs = _
    simp [bytesOf_data, u8s, hx]
  rw [e]
  simp
  omega
theorem u8_nat {a : Int} (h0 : 0 ≤ a) (h1 : a < 256) : (UInt8.ofNat a.toNat).toNat = a.toNat := by
  rw [UInt8.toNat_ofNat']; omega
theorem u8_lt {a b : Int} (a0 : 0 ≤ a) (a1 : a < 256) (b0 : 0 ≤ b) (b1 : b < 256) : (decide (UInt8.ofNat a.toNat < UInt8.ofNat b.toNat)) = decide (a < b) := by
  rw [decide_eq_decide, UInt8.lt_iff_toNat_lt, u8_nat a0 a1, u8_nat b0 b1]; omega
theorem u8_beq {a b : Int} (a0 : 0 ≤ a) (a1 : a < 256) (b0 : 0 ≤ b) (b1 : b < 256) : (UInt8.ofNat a.toNat == UInt8.ofNat b.toNat) = decide (a = b) := by
  rw [Bool.eq_iff_iff, beq_iff_eq, decide_eq_true_iff, ← UInt8.toNat_inj, u8_nat a0 a1, u8_nat b0 b1]; omega
theorem mod_step (a : Int) (w : Nat) : a % 256 ^ (w + 1) = (a / 256 ^ w % 256) * 256 ^ w + a % 256 ^ w := by
  have hp : (0 : Int) < 256 ^ w := Int.pow_pos (by decide)
  rw [Int.pow_succ]
  have h1 := Int.emod_add_mul_ediv a (256 ^ w)
  have h2 := Int.emod_add_mul_ediv (a / 256 ^ w) 256
  have h3 := Int.emod_add_mul_ediv a (256 ^ w * 256)
  have h4 : a / (256 ^ w * 256) = a / 256 ^ w / 256 := (Int.ediv_ediv_of_nonneg (Int.le_of_lt hp)).symm
  rw [h4] at h3
  generalize a / 256 ^ w = q at *
  generalize (256 : Int) ^ w = p at *
  have h5 : p * 256 * (q / 256) = p * (256 * (q / 256)) := Int.mul_assoc _ _ _
  have h6 : p * q = p * (q % 256) + p * (256 * (q / 256)) := by rw [← Int.mul_add, h2]
  rw [Int.mul_comm (q % 256) p]
  omega
theorem less_be (n m : Int) : ∀ w, Op.bytesLess (u8s (be n w)) (u8s (be m w)) = decide (n % 256 ^ w < m % 256 ^ w)
  | 0 => by simp [be, u8s, Op.bytesLess, Int.emod_one]
  | w + 1 => by
    have ih := less_be n m w
    have hp : (0 : Int) < 256 ^ w := Int.pow_pos (by decide)
    have na := Int.emod_nonneg (n / 256 ^ w) (show (256 : Int) ≠ 0 by decide)
    have nb := Int.emod_lt_of_pos (n / 256 ^ w) (show (0 : Int) < 256 by decide)
    have ma := Int.emod_nonneg (m / 256 ^ w) (show (256 : Int) ≠ 0 by decide)
    have mb := Int.emod_lt_of_pos (m / 256 ^ w) (show (0 : Int) < 256 by decide)
    have r1 := Int.emod_nonneg n (Int.ne_of_gt hp)
    have r2 := Int.emod_lt_of_pos n hp
    have r3 := Int.emod_nonneg m (Int.ne_of_gt hp)
    have r4 := Int.emod_lt_of_pos m hp
    rw [mod_step n, mod_step m]
    simp only [be, u8s, List.map_cons, Op.bytesLess]
    rw [show List.map (fun n => UInt8.ofNat n.toNat) (be n w) = u8s (be n w) from rfl, show List.map (fun n => UInt8.ofNat n.toNat) (be m w) = u8s (be m w) from rfl, ih]
    generalize n / 256 ^ w % 256 = a at *
    generalize m / 256 ^ w % 256 = b at *
    generalize n % 256 ^ w = r at *
    generalize m % 256 ^ w = q at *
    generalize (256 : Int) ^ w = p at *
    rw [u8_beq na nb ma mb]
    show (decide (UInt8.ofNat a.toNat < UInt8.ofNat b.toNat) || _) = _
    rw [u8_lt na nb ma mb]
    rcases Int.lt_trichotomy a b with h | h | h
    · have h7 : (a + 1) * p ≤ b * p := Int.mul_le_mul_of_nonneg_right (by omega) (by omega)
      rw [Int.add_mul] at h7
      rw [decide_eq_true h, decide_eq_true (show a * p + r < b * p + q by omega)]; rfl
    · subst h
      rw [decide_eq_false (Int.lt_irrefl a), decide_eq_true rfl]
      simp
    · have h7 : (b + 1) * p ≤ a * p := Int.mul_le_mul_of_nonneg_right (by omega) (by omega)
      rw [Int.add_mul] at h7
      rw [decide_eq_false (show ¬ a < b by omega), decide_eq_false (show ¬ a = b by omega), decide_eq_false (show ¬ a * p + r < b * p + q by omega)]; rfl
/-! ### a number out of bytes -/
def vl : Int → List Int → Int
  | v, [] => v
  | v, b :: r => vl (v * 256 + b) r
theorem vl_be (n : Int) : ∀ (w : Nat) (v : Int), vl v (be n w) = v * 256 ^ w + n % 256 ^ w
  | 0, v => by simp [be, vl, Int.emod_one]
  | w + 1, v => by
    simp only [be, vl]
    rw [vl_be n w, mod_step n w, Int.pow_succ, Int.add_mul, Int.mul_assoc, Int.mul_comm 256 (256 ^ w)]
    omega
theorem or_add {v b : Int} (v0 : 0 ≤ v) (v1 : v < 281474976710656) (b0 : 0 ≤ b) (b1 : b < 256) : bitop .or .i64 (shlv .i64 v 8) b = v * 256 + b := by
  have e1 : shlv .i64 v 8 = v * 256 := by
    unfold shlv
    have : min (8 : Int).toNat IntKind.i64.bits = 8 := by decide
    rw [this, IntKind.wrap_i64, show (2 : Int) ^ 8 = 256 by decide]; omega
  rw [e1]
  unfold bitop
  simp only
  have hb : IntKind.i64.bits = 64 := rfl
  have n1 : ∀ x : Int, 0 ≤ x → x < 9223372036854775808 → (BitVec.ofInt IntKind.i64.bits x).toNat = x.toNat := fun x h0 h1 => by
    rw [BitVec.toNat_ofInt, hb]
    have : (2 : Int) ^ 64 = 18446744073709551616 := by decide
    have : ((2 ^ 64 : Nat) : Int) = 18446744073709551616 := by decide
    rw [this, Int.emod_eq_of_lt h0 (by omega)]
  rw [BitVec.toNat_or, n1 _ (by omega) (by omega), n1 _ b0 (by omega)]
  have hv : (v * 256).toNat = v.toNat <<< 8 := by rw [Nat.shiftLeft_eq]; omega
  rw [hv, ← Nat.shiftLeft_add_eq_or_of_lt (show b.toNat < 2 ^ 8 by omega), Nat.shiftLeft_eq, IntKind.wrap_i64]
  omega
theorem get_loop (e0 : Int → Option (Int × Bool)) (k : Nat) (l : List Int) (hl : l.length ≤ 7) (hr : ∀ x ∈ l, 0 ≤ x ∧ x < 256) : ∀ (rest pre : List Int) (j : Nat) (v : Int), rest.length < j → l = pre ++ rest → 0 ≤ v → v < 256 ^ pre.length →
    nums_Get_l1 e0 k j (bytesOf l) v (l.length : Int) (pre.length : Int) = e0 (vl v rest)
  | rest, pre, 0, v, hj, _, _, _ => by omega
  | [], pre, j + 1, v, hj, he, v0, v1 => by
    show nums_Get_l1s _ _ _ _ _ _ _ = _
    unfold nums_Get_l1s
    rw [cond_f (decide_eq_false (by rw [he]; simp))]
    rfl
  | b :: rest, pre, j + 1, v, hj, he, v0, v1 => by
    show nums_Get_l1s _ _ _ _ _ _ _ = _
    unfold nums_Get_l1s
    have hlen : l.length = pre.length + (rest.length + 1) := by rw [he]; simp
    have hb := hr b (by rw [he]; simp)
    have hx : l[pre.length]? = some b := by rw [he]; simp
    rw [cond_t (decide_eq_true (by omega)), bytesOf_size, cond_t (by simp; omega), bt_of l pre.length hx hb.1 hb.2]
    have hp : (256 : Int) ^ pre.length ≤ 281474976710656 := by
      have h6 : pre.length ≤ 6 := by omega
      have : (256 : Nat) ^ pre.length ≤ 256 ^ 6 := Nat.pow_le_pow_right (by decide) h6
      have h8 : ((256 ^ pre.length : Nat) : Int) = (256 : Int) ^ pre.length := by simp
      have h9 : (256 : Nat) ^ 6 = 281474976710656 := by decide
      omega
    have hw : wrap64 b = b := w64 (by omega) (by omega)
    have hi : wrap64 ((pre.length : Int) + 1) = (((pre ++ [b]).length : Nat) : Int) := by rw [w64 (by omega) (by omega)]; simp
    rw [hw, or_add v0 (by omega) hb.1 hb.2, hi]
    refine get_loop e0 k l hl hr rest (pre ++ [b]) j (v * 256 + b) (by simp at hj; omega) (by rw [he]; simp) (by omega) ?_
    rw [List.length_append, List.length_singleton, Int.pow_succ]
    omega
theorem get_of (d : Nat) (l : List Int) (h0 : 1 ≤ l.length) (hl : l.length ≤ 7) (hr : ∀ x ∈ l, 0 ≤ x ∧ x < 256) : nums_Get (d + 300) (bytesOf l) = some (vl 0 l, true) := by
  unfold nums_Get
  rw [bytesOf_size, cond_f (decide_eq_false (by omega)), decide_eq_false (by omega)]
  show nums_Get_k1 (d + 300) (bytesOf l) = _
  unfold nums_Get_k1
  rw [bytesOf_size]
  exact get_loop _ _ l hl hr l [] (d + 300) 0 (by omega) rfl (by omega) (by simp)
theorem shr_eq {n : Int} {t : Int} (h0 : 0 ≤ t) (h1 : t < 64) : shrv .i64 n t = n / (2 ^ t.toNat) := by
  unfold shrv
  have : min t.toNat IntKind.i64.bits = t.toNat := by
    have : IntKind.i64.bits = 64 := rfl
    omega
  rw [this]
theorem u8_mod (x : Int) : IntKind.u8.wrap (x % 256) = IntKind.u8.wrap x := by
  simp [IntKind.wrap, IntKind.signed, IntKind.bits]
def putR (n s : Int) (l : List Int) : Option ByteArray := bif decide (n < 0) then some ⟨#[]⟩ else bif !(decide (shrv .i64 n s = 0)) then some ⟨#[]⟩ else some (bytesOf l)
theorem speaks01 (d : Nat) : corbellaw01_speaks (d + 300) = some true := by kernel_rfl
theorem put_low (d : Nat) (n w : Int) (h : w < 1) : nums_Put (d + 300) n w = some ⟨#[]⟩ := cond_t (decide_eq_true h)
theorem put_high (d : Nat) (n w : Int) (h0 : ¬ w < 1) (h : 7 < w) : nums_Put (d + 300) n w = some ⟨#[]⟩ := (cond_f (decide_eq_false h0)).trans (cond_t (decide_eq_true h))
theorem put_1 (d : Nat) (n : Int) : nums_Put (d + 300) n 1 = putR n 8 [IntKind.u8.wrap (shrv .i64 n 0)] := by kernel_rfl
theorem put_2 (d : Nat) (n : Int) : nums_Put (d + 300) n 2 = putR n 16 [IntKind.u8.wrap (shrv .i64 n 8), IntKind.u8.wrap (shrv .i64 n 0)] := by kernel_rfl
theorem put_3 (d : Nat) (n : Int) : nums_Put (d + 300) n 3 = putR n 24 [IntKind.u8.wrap (shrv .i64 n 16), IntKind.u8.wrap (shrv .i64 n 8), IntKind.u8.wrap (shrv .i64 n 0)] := by kernel_rfl
theorem put_4 (d : Nat) (n : Int) : nums_Put (d + 300) n 4 = putR n 32 [IntKind.u8.wrap (shrv .i64 n 24), IntKind.u8.wrap (shrv .i64 n 16), IntKind.u8.wrap (shrv .i64 n 8), IntKind.u8.wrap (shrv .i64 n 0)] := by kernel_rfl
theorem put_5 (d : Nat) (n : Int) : nums_Put (d + 300) n 5 = putR n 40 [IntKind.u8.wrap (shrv .i64 n 32), IntKind.u8.wrap (shrv .i64 n 24), IntKind.u8.wrap (shrv .i64 n 16), IntKind.u8.wrap (shrv .i64 n 8), IntKind.u8.wrap (shrv .i64 n 0)] := by kernel_rfl
theorem put_6 (d : Nat) (n : Int) : nums_Put (d + 300) n 6 = putR n 48 [IntKind.u8.wrap (shrv .i64 n 40), IntKind.u8.wrap (shrv .i64 n 32), IntKind.u8.wrap (shrv .i64 n 24), IntKind.u8.wrap (shrv .i64 n 16), IntKind.u8.wrap (shrv .i64 n 8), IntKind.u8.wrap (shrv .i64 n 0)] := by kernel_rfl
theorem put_7 (d : Nat) (n : Int) : nums_Put (d + 300) n 7 = putR n 56 [IntKind.u8.wrap (shrv .i64 n 48), IntKind.u8.wrap (shrv .i64 n 40), IntKind.u8.wrap (shrv .i64 n 32), IntKind.u8.wrap (shrv .i64 n 24), IntKind.u8.wrap (shrv .i64 n 16), IntKind.u8.wrap (shrv .i64 n 8), IntKind.u8.wrap (shrv .i64 n 0)] := by kernel_rfl
theorem pb_1 (d : Nat) (n : Int) (h0 : 0 ≤ n) : nums_Put (d + 300) n 1 = bif decide (n / 256 ^ 1 = 0) then some (bytesOf (be n 1)) else some ⟨#[]⟩ := by
  rw [put_1]
  unfold putR
  rw [decide_eq_false (show ¬ n < 0 by omega)]
  simp only [cond_false, be, u8_wrap]
  simp only [shr_eq (t := 8) (by omega) (by omega), shr_eq (t := 0) (by omega) (by omega)]
  simp only [show (2 : Int) ^ Int.toNat 0 = 1 from by decide, show (2 : Int) ^ Int.toNat 8 = 256 from by decide]
  simp only [show (256 : Int) ^ 0 = 1 from by decide, show (256 : Int) ^ 1 = 256 from by decide]
  cases decide (n / 256 = 0) <;> rfl
theorem pb_2 (d : Nat) (n : Int) (h0 : 0 ≤ n) : nums_Put (d + 300) n 2 = bif decide (n / 256 ^ 2 = 0) then some (bytesOf (be n 2)) else some ⟨#[]⟩ := by
  rw [put_2]
  unfold putR
  rw [decide_eq_false (show ¬ n < 0 by omega)]
  simp only [cond_false, be, u8_wrap]
  simp only [shr_eq (t := 16) (by omega) (by omega), shr_eq (t := 0) (by omega) (by omega), shr_eq (t := 8) (by omega) (by omega)]
  simp only [show (2 : Int) ^ Int.toNat 0 = 1 from by decide, show (2 : Int) ^ Int.toNat 8 = 256 from by decide, show (2 : Int) ^ Int.toNat 16 = 65536 from by decide]
  simp only [show (256 : Int) ^ 0 = 1 from by decide, show (256 : Int) ^ 1 = 256 from by decide, show (256 : Int) ^ 2 = 65536 from by decide]
  cases decide (n / 65536 = 0) <;> rfl
theorem pb_3 (d : Nat) (n : Int) (h0 : 0 ≤ n) : nums_Put (d + 300) n 3 = bif decide (n / 256 ^ 3 = 0) then some (bytesOf (be n 3)) else some ⟨#[]⟩ := by
  rw [put_3]
  unfold putR
  rw [decide_eq_false (show ¬ n < 0 by omega)]
  simp only [cond_false, be, u8_wrap]
  simp only [shr_eq (t := 24) (by omega) (by omega), shr_eq (t := 0) (by omega) (by omega), shr_eq (t := 8) (by omega) (by omega), shr_eq (t := 16) (by omega) (by omega)]
  simp only [show (2 : Int) ^ Int.toNat 0 = 1 from by decide, show (2 : Int) ^ Int.toNat 8 = 256 from by decide, show (2 : Int) ^ Int.toNat 16 = 65536 from by decide, show (2 : Int) ^ Int.toNat 24 = 16777216 from by decide]
  simp only [show (256 : Int) ^ 0 = 1 from by decide, show (256 : Int) ^ 1 = 256 from by decide, show (256 : Int) ^ 2 = 65536 from by decide, show (256 : Int) ^ 3 = 16777216 from by decide]
  cases decide (n / 16777216 = 0) <;> rfl
theorem pb_4 (d : Nat) (n : Int) (h0 : 0 ≤ n) : nums_Put (d + 300) n 4 = bif decide (n / 256 ^ 4 = 0) then some (bytesOf (be n 4)) else some ⟨#[]⟩ := by
  rw [put_4]
  unfold putR
  rw [decide_eq_false (show ¬ n < 0 by omega)]
  simp only [cond_false, be, u8_wrap]
  simp only [shr_eq (t := 32) (by omega) (by omega), shr_eq (t := 0) (by omega) (by omega), shr_eq (t := 8) (by omega) (by omega), shr_eq (t := 16) (by omega) (by omega), shr_eq (t := 24) (by omega) (by omega)]
  simp only [show (2 : Int) ^ Int.toNat 0 = 1 from by decide, show (2 : Int) ^ Int.toNat 8 = 256 from by decide, show (2 : Int) ^ Int.toNat 16 = 65536 from by decide, show (2 : Int) ^ Int.toNat 24 = 16777216 from by decide, show (2 : Int) ^ Int.toNat 32 = 4294967296 from by decide]
  simp only [show (256 : Int) ^ 0 = 1 from by decide, show (256 : Int) ^ 1 = 256 from by decide, show (256 : Int) ^ 2 = 65536 from by decide, show (256 : Int) ^ 3 = 16777216 from by decide, show (256 : Int) ^ 4 = 4294967296 from by decide]
  cases decide (n / 4294967296 = 0) <;> rfl
theorem pb_5 (d : Nat) (n : Int) (h0 : 0 ≤ n) : nums_Put (d + 300) n 5 = bif decide (n / 256 ^ 5 = 0) then some (bytesOf (be n 5)) else some ⟨#[]⟩ := by
  rw [put_5]
  unfold putR
  rw [decide_eq_false (show ¬ n < 0 by omega)]
  simp only [cond_false, be, u8_wrap]
  simp only [shr_eq (t := 40) (by omega) (by omega), shr_eq (t := 0) (by omega) (by omega), shr_eq (t := 8) (by omega) (by omega), shr_eq (t := 16) (by omega) (by omega), shr_eq (t := 24) (by omega) (by omega), shr_eq (t := 32) (by omega) (by omega)]
  simp only [show (2 : Int) ^ Int.toNat 0 = 1 from by decide, show (2 : Int) ^ Int.toNat 8 = 256 from by decide, show (2 : Int) ^ Int.toNat 16 = 65536 from by decide, show (2 : Int) ^ Int.toNat 24 = 16777216 from by decide, show (2 : Int) ^ Int.toNat 32 = 4294967296 from by decide, show (2 : Int) ^ Int.toNat 40 = 1099511627776 from by decide]
  simp only [show (256 : Int) ^ 0 = 1 from by decide, show (256 : Int) ^ 1 = 256 from by decide, show (256 : Int) ^ 2 = 65536 from by decide, show (256 : Int) ^ 3 = 16777216 from by decide, show (256 : Int) ^ 4 = 4294967296 from by decide, show (256 : Int) ^ 5 = 1099511627776 from by decide]
  cases decide (n / 1099511627776 = 0) <;> rfl
theorem pb_6 (d : Nat) (n : Int) (h0 : 0 ≤ n) : nums_Put (d + 300) n 6 = bif decide (n / 256 ^ 6 = 0) then some (bytesOf (be n 6)) else some ⟨#[]⟩ := by
  rw [put_6]
  unfold putR
  rw [decide_eq_false (show ¬ n < 0 by omega)]
  simp only [cond_false, be, u8_wrap]
  simp only [shr_eq (t := 48) (by omega) (by omega), shr_eq (t := 0) (by omega) (by omega), shr_eq (t := 8) (by omega) (by omega), shr_eq (t := 16) (by omega) (by omega), shr_eq (t := 24) (by omega) (by omega), shr_eq (t := 32) (by omega) (by omega), shr_eq (t := 40) (by omega) (by omega)]
  simp only [show (2 : Int) ^ Int.toNat 0 = 1 from by decide, show (2 : Int) ^ Int.toNat 8 = 256 from by decide, show (2 : Int) ^ Int.toNat 16 = 65536 from by decide, show (2 : Int) ^ Int.toNat 24 = 16777216 from by decide, show (2 : Int) ^ Int.toNat 32 = 4294967296 from by decide, show (2 : Int) ^ Int.toNat 40 = 1099511627776 from by decide, show (2 : Int) ^ Int.toNat 48 = 281474976710656 from by decide]
  simp only [show (256 : Int) ^ 0 = 1 from by decide, show (256 : Int) ^ 1 = 256 from by decide, show (256 : Int) ^ 2 = 65536 from by decide, show (256 : Int) ^ 3 = 16777216 from by decide, show (256 : Int) ^ 4 = 4294967296 from by decide, show (256 : Int) ^ 5 = 1099511627776 from by decide, show (256 : Int) ^ 6 = 281474976710656 from by decide]
  cases decide (n / 281474976710656 = 0) <;> rfl
theorem pb_7 (d : Nat) (n : Int) (h0 : 0 ≤ n) : nums_Put (d + 300) n 7 = bif decide (n / 256 ^ 7 = 0) then some (bytesOf (be n 7)) else some ⟨#[]⟩ := by
  rw [put_7]
  unfold putR
  rw [decide_eq_false (show ¬ n < 0 by omega)]
  simp only [cond_false, be, u8_wrap]
  simp only [shr_eq (t := 56) (by omega) (by omega), shr_eq (t := 0) (by omega) (by omega), shr_eq (t := 8) (by omega) (by omega), shr_eq (t := 16) (by omega) (by omega), shr_eq (t := 24) (by omega) (by omega), shr_eq (t := 32) (by omega) (by omega), shr_eq (t := 40) (by omega) (by omega), shr_eq (t := 48) (by omega) (by omega)]
  simp only [show (2 : Int) ^ Int.toNat 0 = 1 from by decide, show (2 : Int) ^ Int.toNat 8 = 256 from by decide, show (2 : Int) ^ Int.toNat 16 = 65536 from by decide, show (2 : Int) ^ Int.toNat 24 = 16777216 from by decide, show (2 : Int) ^ Int.toNat 32 = 4294967296 from by decide, show (2 : Int) ^ Int.toNat 40 = 1099511627776 from by decide, show (2 : Int) ^ Int.toNat 48 = 281474976710656 from by decide, show (2 : Int) ^ Int.toNat 56 = 72057594037927936 from by decide]
  simp only [show (256 : Int) ^ 0 = 1 from by decide, show (256 : Int) ^ 1 = 256 from by decide, show (256 : Int) ^ 2 = 65536 from by decide, show (256 : Int) ^ 3 = 16777216 from by decide, show (256 : Int) ^ 4 = 4294967296 from by decide, show (256 : Int) ^ 5 = 1099511627776 from by decide, show (256 : Int) ^ 6 = 281474976710656 from by decide, show (256 : Int) ^ 7 = 72057594037927936 from by decide]
  cases decide (n / 72057594037927936 = 0) <;> rfl
theorem put_cases (d : Nat) (n w : Int) : nums_Put (d + 300) n w = some ⟨#[]⟩ ∨ ∃ W : Nat, w = W ∧ 1 ≤ W ∧ W ≤ 7 ∧ 0 ≤ n ∧ n < 256 ^ W ∧ nums_Put (d + 300) n w = some (bytesOf (be n W)) := by
  by_cases a : w < 1
  · exact .inl (put_low d n w a)
  by_cases b : 7 < w
  · exact .inl (put_high d n w a b)
  have neg : ∀ (s : Int) (l : List Int), n < 0 → putR n s l = some ⟨#[]⟩ := fun s l h => by unfold putR; rw [decide_eq_true h]; rfl
  have pos : ∀ (W : Nat), 0 ≤ n → (nums_Put (d + 300) n W = bif decide (n / 256 ^ W = 0) then some (bytesOf (be n W)) else some ⟨#[]⟩) → 1 ≤ W → W ≤ 7 → nums_Put (d + 300) n W = some ⟨#[]⟩ ∨ ∃ V : Nat, (W : Int) = V ∧ 1 ≤ V ∧ V ≤ 7 ∧ 0 ≤ n ∧ n < 256 ^ V ∧ nums_Put (d + 300) n W = some (bytesOf (be n V)) := fun W h0 h h1 h2 => by
    have hp : (0 : Int) < 256 ^ W := Int.pow_pos (by decide)
    by_cases hz : n / 256 ^ W = 0
    · rw [decide_eq_true hz] at h
      have h3 := Int.emod_add_mul_ediv n (256 ^ W)
      have h4 := Int.emod_lt_of_pos n hp
      rw [hz, Int.mul_zero] at h3
      exact .inr ⟨W, rfl, h1, h2, h0, by omega, h⟩
    · rw [decide_eq_false hz] at h
      exact .inl h
  obtain rfl | rfl | rfl | rfl | rfl | rfl | rfl : w = 1 ∨ w = 2 ∨ w = 3 ∨ w = 4 ∨ w = 5 ∨ w = 6 ∨ w = 7 := by omega
  · by_cases h0 : n < 0
    · exact .inl ((put_1 d n).trans (neg _ _ h0))
    · exact pos 1 (by omega) (pb_1 d n (by omega)) (by omega) (by omega)
  · by_cases h0 : n < 0
    · exact .inl ((put_2 d n).trans (neg _ _ h0))
    · exact pos 2 (by omega) (pb_2 d n (by omega)) (by omega) (by omega)
  · by_cases h0 : n < 0
    · exact .inl ((put_3 d n).trans (neg _ _ h0))
    · exact pos 3 (by omega) (pb_3 d n (by omega)) (by omega) (by omega)
  · by_cases h0 : n < 0
    · exact .inl ((put_4 d n).trans (neg _ _ h0))
    · exact pos 4 (by omega) (pb_4 d n (by omega)) (by omega) (by omega)
  · by_cases h0 : n < 0
    · exact .inl ((put_5 d n).trans (neg _ _ h0))
    · exact pos 5 (by omega) (pb_5 d n (by omega)) (by omega) (by omega)
  · by_cases h0 : n < 0
    · exact .inl ((put_6 d n).trans (neg _ _ h0))
    · exact pos 6 (by omega) (pb_6 d n (by omega)) (by omega) (by omega)
  · by_cases h0 : n < 0
    · exact .inl ((put_7 d n).trans (neg _ _ h0))
    · exact pos 7 (by omega) (pb_7 d n (by omega)) (by omega) (by omega)
theorem be_ne (n : Int) {W : Nat} (h : 1 ≤ W) : bytesOf (be n W) ≠ ⟨#[]⟩ := fun h1 => by
  have h2 := congrArg ByteArray.size h1
  rw [bytesOf_size, be_length] at h2
  have : (⟨#[]⟩ : ByteArray).size = 0 := rfl
  omega
theorem get_be (d : Nat) (n : Int) (W : Nat) (h1 : 1 ≤ W) (h2 : W ≤ 7) (h3 : 0 ≤ n) (h4 : n < 256 ^ W) : nums_Get (d + 300) (bytesOf (be n W)) = some (n, true) := by
  rw [get_of d _ (by rw [be_length]; exact h1) (by rw [be_length]; exact h2) (be_range n W), vl_be, Int.zero_mul, Int.zero_add, Int.emod_eq_of_lt h3 h4]
theorem width (n w : Int) : ∃ k, corbellaw01_NumsWidth k n w = some true := by
  refine ⟨0 + 300, ?_⟩
  unfold corbellaw01_NumsWidth
  rw [speaks01]
  rcases put_cases 0 n w with h | ⟨W, rfl, h1, h2, h3, h4, h⟩
  · rw [h]; rfl
  · rw [h]
    show (bif decide (bytesOf (be n W) = ⟨#[]⟩) then _ else corbellaw01_NumsWidth_j0 _ _ _ _ _ _ (decide ((W : Int) = 7))) = _
    rw [decide_eq_false (be_ne n h1)]
    by_cases h7 : (W : Int) = 7
    · rw [decide_eq_true h7]; rfl
    · rw [decide_eq_false h7]
      show corbellaw01_NumsWidth_k1 (0 + 300) n W (bytesOf (be n W)) = _
      unfold corbellaw01_NumsWidth_k1
      have e0 : (⟨#[0]⟩ : ByteArray) = bytesOf [0] := rfl
      have e1 : (⟨#[0]⟩ : ByteArray) ++ bytesOf (be n W) = bytesOf (0 :: be n W) := by rw [e0, bytesOf_append]; rfl
      have hb : be n (W + 1) = 0 :: be n W := by
        show (n / 256 ^ W % 256) :: be n W = _
        rw [Int.ediv_eq_zero_of_lt h3 h4]; rfl
      have h5 : n < 256 ^ (W + 1) := by
        rw [Int.pow_succ]
        generalize (256 : Int) ^ W = p at h4 ⊢
        omega
      have hw1 : wrap64 ((W : Int) + 1) = ((W + 1 : Nat) : Int) := by rw [w64 (by omega) (by omega)]; rfl
      have hs : decide ((⟨#[0]⟩ : ByteArray).size + (bytesOf (be n W)).size ≤ 1099511627776) = true := by
        rw [bytesOf_size, be_length]
        have : (⟨#[0]⟩ : ByteArray).size = 1 := rfl
        exact decide_eq_true (by omega)
      have hput : nums_Put (0 + 300) n ((W + 1 : Nat) : Int) = some (bytesOf (0 :: be n W)) := by
        rcases put_cases 0 n ((W + 1 : Nat) : Int) with h' | ⟨V, hv, _, _, _, _, h'⟩
        · exfalso
          have hz : n / 256 ^ (W + 1) = 0 := Int.ediv_eq_zero_of_lt h3 h5
          have key : nums_Put (0 + 300) n ((W + 1 : Nat) : Int) = bif decide (n / 256 ^ (W + 1) = 0) then some (bytesOf (be n (W + 1))) else some ⟨#[]⟩ := by
            obtain rfl | rfl | rfl | rfl | rfl | rfl : W = 1 ∨ W = 2 ∨ W = 3 ∨ W = 4 ∨ W = 5 ∨ W = 6 := by omega
            · exact pb_2 0 n h3
            · exact pb_3 0 n h3
            · exact pb_4 0 n h3
            · exact pb_5 0 n h3
            · exact pb_6 0 n h3
            · exact pb_7 0 n h3
          rw [decide_eq_true hz, h'] at key
          exact be_ne n (show 1 ≤ W + 1 by omega) (Option.some.inj key).symm
        · obtain rfl : V = W + 1 := by omega
          rw [h', hb]
      rw [hs, e1, hw1, hput, ← hb, get_be 0 n (W + 1) (by omega) (by omega) h3 h5]
      show (bif decide (bytesOf (be n (W + 1)) = bytesOf (be n (W + 1))) then some (decide (n = n)) else _) = _
      rw [decide_eq_true rfl, decide_eq_true rfl]; rfl
theorem NumsWidth : NumsWidthPure := fun n w _ _ => width n w
end Go.Proofs.Ytncdfikcdchimaa.Pure
