/- CrcTells: the pure statement, over numbers and lists alone; no conditions. -/
import Derived.Test.YtncdfikcdchimaaDoorStatCrcTells
set_option linter.unusedVariables false
set_option linter.unusedSimpArgs false
namespace Go.Proofs.YtncdfikcdchimaaDoor.Pure
open Go Go.RowKit Go.Proofs.YtncdfikcdchimaaDoor.Ev
/-! ### whole numbers -/
theorem wf_i64 {n : Int} (h : Ty.wf (.int .i64) n) : -9223372036854775808 ≤ n ∧ n ≤ 9223372036854775807 := by
  have h : (Lit.int .i64 n).wf = true := h
  simpa [Lit.wf, IntKind.min, IntKind.max, IntKind.signed, IntKind.bits] using h
theorem w64 {n : Int} (h0 : -9223372036854775808 ≤ n) (h1 : n ≤ 9223372036854775807) : wrap64 n = n := by unfold wrap64; omega
theorem tdiv_pos {a b : Int} (ha : 0 ≤ a) : Int.tdiv a b = a / b := Int.tdiv_eq_ediv_of_nonneg ha
theorem tmod_pos {a b : Int} (ha : 0 ≤ a) : Int.tmod a b = a % b := Int.tmod_eq_emod_of_nonneg ha
theorem bytesOf_append (a b : List Int) : bytesOf a ++ bytesOf b = bytesOf (a ++ b) := by
  apply ByteArray.ext
  simp [bytesOf]
theorem cond_t {α : Type} {c : Bool} {a b : α} (h : c = true) : (bif c then a else b) = a := by rw [h]; rfl
theorem cond_f {α : Type} {c : Bool} {a b : α} (h : c = false) : (bif c then a else b) = b := by rw [h]; rfl
theorem optb_some {α β : Type} (a : α) (f : α → Option β) : optb (some a) f = f a := rfl
/-! ### bytes, the greatest first -/
def be (n : Int) : Nat → List Int
  | 0 => []
  | w + 1 => (n / 256 ^ w % 256) :: be n w
theorem be_length (n : Int) : ∀ w, (be n w).length = w
  | 0 => rfl
  | w + 1 => by simp [be, be_length n w]
theorem u8_wrap (x : Int) : IntKind.u8.wrap x = x % 256 := by simp [IntKind.wrap, IntKind.signed, IntKind.bits]
theorem be_range (n : Int) : ∀ w, ∀ x ∈ be n w, 0 ≤ x ∧ x < 256
  | 0, x, h => by simp [be] at h
  | w + 1, x, h => by
    rcases List.mem_cons.1 h with rfl | h
    · omega
    · exact be_range n w x h
def u8s (l : List Int) : List UInt8 := l.map fun n => UInt8.ofNat n.toNat
theorem bytesOf_data (l : List Int) : (bytesOf l).data = (u8s l).toArray := rfl
theorem toList_data (s : ByteArray) : s.toList = s.data.toList := by
  have loop : ∀ (i : Nat) (r : List UInt8), ByteArray.toList.loop s i r = r.reverse ++ s.data.toList.drop i := by
    intro i r
    fun_induction ByteArray.toList.loop s i r with
    | case1 i r h ih =>
      rw [ih, List.reverse_cons, List.append_assoc]
      congr 1
      have hi : i < s.data.toList.length := by simpa using h
      rw [List.drop_eq_getElem_cons hi]
      simp [ByteArray.get!, h]
    | case2 i r h =>
      have : s.data.toList.length ≤ i := by simpa using h
      rw [List.drop_eq_nil_of_le this, List.append_nil]
  unfold ByteArray.toList
  rw [loop]; simp
theorem bytesOf_toList (l : List Int) : (bytesOf l).toList = u8s l := by rw [toList_data, bytesOf_data]
theorem bytesOf_size (l : List Int) : (bytesOf l).size = l.length := by
  show (bytesOf l).data.size = _
  rw [bytesOf_data]; simp [u8s]
theorem bt_of (l : List Int) (i : Nat) {x : Int} (h : l[i]? = some x) (h0 : 0 ≤ x) (h1 : x < 256) : bt (bytesOf l) (i : Int) = x := by
  have hi : i < l.length := (List.getElem?_eq_some_iff.1 h).1
  have hx : l[i] = x := (List.getElem?_eq_some_iff.1 h).2
  unfold bt
  have hs : (i : Int).toNat < (bytesOf l).size := by rw [bytesOf_size]; simpa using hi
  rw [dif_pos hs]
  have e : (bytesOf l)[(i : Int).toNat]'hs = UInt8.ofNat x.toNat := by
    show (bytesOf l).data[(i : Int).toNat]'hs = _
    simp [bytesOf_data, u8s, hx]
  rw [e]
  simp
  omega
theorem u8_nat {a : Int} (h0 : 0 ≤ a) (h1 : a < 256) : (UInt8.ofNat a.toNat).toNat = a.toNat := by
  rw [UInt8.toNat_ofNat']; omega
theorem u8_lt {a b : Int} (a0 : 0 ≤ a) (a1 : a < 256) (b0 : 0 ≤ b) (b1 : b < 256) : (decide (UInt8.ofNat a.toNat < UInt8.ofNat b.toNat)) = decide (a < b) := by
  rw [decide_eq_decide, UInt8.lt_iff_toNat_lt, u8_nat a0 a1, u8_nat b0 b1]; omega
theorem u8_beq {a b : Int} (a0 : 0 ≤ a) (a1 : a < 256) (b0 : 0 ≤ b) (b1 : b < 256) : (UInt8.ofNat a.toNat == UInt8.ofNat b.toNat) = decide (a = b) := by
  rw [Bool.eq_iff_iff, beq_iff_eq, decide_eq_true_iff, ← UInt8.toNat_inj, u8_nat a0 a1, u8_nat b0 b1]; omega
theorem mod_step (a : Int) (w : Nat) : a % 256 ^ (w + 1) = (a / 256 ^ w % 256) * 256 ^ w + a % 256 ^ w := by
  have hp : (0 : Int) < 256 ^ w := Int.pow_pos (by decide)
  rw [Int.pow_succ]
  have h1 := Int.emod_add_mul_ediv a (256 ^ w)
  have h2 := Int.emod_add_mul_ediv (a / 256 ^ w) 256
  have h3 := Int.emod_add_mul_ediv a (256 ^ w * 256)
  have h4 : a / (256 ^ w * 256) = a / 256 ^ w / 256 := (Int.ediv_ediv_of_nonneg (Int.le_of_lt hp)).symm
  rw [h4] at h3
  generalize a / 256 ^ w = q at *
  generalize (256 : Int) ^ w = p at *
  have h5 : p * 256 * (q / 256) = p * (256 * (q / 256)) := Int.mul_assoc _ _ _
  have h6 : p * q = p * (q % 256) + p * (256 * (q / 256)) := by rw [← Int.mul_add, h2]
  rw [Int.mul_comm (q % 256) p]
  omega
theorem less_be (n m : Int) : ∀ w, Op.bytesLess (u8s (be n w)) (u8s (be m w)) = decide (n % 256 ^ w < m % 256 ^ w)
  | 0 => by simp [be, u8s, Op.bytesLess, Int.emod_one]
  | w + 1 => by
    have ih := less_be n m w
    have hp : (0 : Int) < 256 ^ w := Int.pow_pos (by decide)
    have na := Int.emod_nonneg (n / 256 ^ w) (show (256 : Int) ≠ 0 by decide)
    have nb := Int.emod_lt_of_pos (n / 256 ^ w) (show (0 : Int) < 256 by decide)
    have ma := Int.emod_nonneg (m / 256 ^ w) (show (256 : Int) ≠ 0 by decide)
    have mb := Int.emod_lt_of_pos (m / 256 ^ w) (show (0 : Int) < 256 by decide)
    have r1 := Int.emod_nonneg n (Int.ne_of_gt hp)
    have r2 := Int.emod_lt_of_pos n hp
    have r3 := Int.emod_nonneg m (Int.ne_of_gt hp)
    have r4 := Int.emod_lt_of_pos m hp
    rw [mod_step n, mod_step m]
    simp only [be, u8s, List.map_cons, Op.bytesLess]
    rw [show List.map (fun n => UInt8.ofNat n.toNat) (be n w) = u8s (be n w) from rfl, show List.map (fun n => UInt8.ofNat n.toNat) (be m w) = u8s (be m w) from rfl, ih]
    generalize n / 256 ^ w % 256 = a at *
    generalize m / 256 ^ w % 256 = b at *
    generalize n % 256 ^ w = r at *
    generalize m % 256 ^ w = q at *
    generalize (256 : Int) ^ w = p at *
    rw [u8_beq na nb ma mb]
    show (decide (UInt8.ofNat a.toNat < UInt8.ofNat b.toNat) || _) = _
    rw [u8_lt na nb ma mb]
    rcases Int.lt_trichotomy a b with h | h | h
    · have h7 : (a + 1) * p ≤ b * p := Int.mul_le_mul_of_nonneg_right (by omega) (by omega)
      rw [Int.add_mul] at h7
      rw [decide_eq_true h, decide_eq_true (show a * p + r < b * p + q by omega)]; rfl
    · subst h
      rw [decide_eq_false (Int.lt_irrefl a), decide_eq_true rfl]
      simp
    · have h7 : (b + 1) * p ≤ a * p := Int.mul_le_mul_of_nonneg_right (by omega) (by omega)
      rw [Int.add_mul] at h7
      rw [decide_eq_false (show ¬ a < b by omega), decide_eq_false (show ¬ a = b by omega), decide_eq_false (show ¬ a * p + r < b * p + q by omega)]; rfl
/-! ### a number out of bytes -/
def vl : Int → List Int → Int
  | v, [] => v
  | v, b :: r => vl (v * 256 + b) r
theorem vl_be (n : Int) : ∀ (w : Nat) (v : Int), vl v (be n w) = v * 256 ^ w + n % 256 ^ w
  | 0, v => by simp [be, vl, Int.emod_one]
  | w + 1, v => by
    simp only [be, vl]
    rw [vl_be n w, mod_step n w, Int.pow_succ, Int.add_mul, Int.mul_assoc, Int.mul_comm 256 (256 ^ w)]
    omega
abbrev B := BitVec 32
def poly : B := 0x82f63b78#32
def s1 (c : B) : B := (c >>> 1) ^^^ (if c.getLsbD 0 then poly else 0#32)
theorem s1_xor (a b : B) : s1 (a ^^^ b) = s1 a ^^^ s1 b := by
  unfold s1
  rw [BitVec.ushiftRight_xor_distrib, BitVec.getLsbD_xor]
  cases a.getLsbD 0 <;> cases b.getLsbD 0 <;> simp
  · rw [BitVec.xor_assoc]
  · rw [BitVec.xor_assoc, BitVec.xor_assoc, BitVec.xor_comm poly]
  · rw [BitVec.xor_assoc (a >>> 1), BitVec.xor_comm poly, BitVec.xor_assoc (b >>> 1), BitVec.xor_self]; simp
theorem s1_zero : s1 0#32 = 0#32 := by decide
theorem s1_eq_zero {x : B} (h : s1 x = 0#32) : x = 0#32 := by
  unfold s1 at h
  cases hb : x.getLsbD 0 with
  | true =>
    exfalso
    rw [hb] at h
    have h31 := congrArg (fun z : B => z.getLsbD 31) h
    simp [poly] at h31
  | false =>
    rw [hb] at h
    simp at h
    apply BitVec.eq_of_getLsbD_eq
    intro i hi
    simp
    cases i with
    | zero => exact hb
    | succ i =>
      have := congrArg (fun z : B => z.getLsbD i) h
      simpa [Nat.add_comm] using this
theorem s1_inj {a b : B} (h : s1 a = s1 b) : a = b := by
  have : s1 (a ^^^ b) = 0#32 := by rw [s1_xor, h, BitVec.xor_self]
  have := s1_eq_zero this
  exact BitVec.xor_eq_zero_iff.1 this
def s8 (c : B) : B := s1 (s1 (s1 (s1 (s1 (s1 (s1 (s1 c)))))))
theorem s8_xor (a b : B) : s8 (a ^^^ b) = s8 a ^^^ s8 b := by simp only [s8, s1_xor]
theorem s8_zero : s8 0#32 = 0#32 := by decide
theorem s8_inj {a b : B} (h : s8 a = s8 b) : a = b := by unfold s8 at h; exact s1_inj (s1_inj (s1_inj (s1_inj (s1_inj (s1_inj (s1_inj (s1_inj h)))))))
theorem s8_ne {a : B} (h : a ≠ 0#32) : s8 a ≠ 0#32 := fun e => h (s8_inj (e.trans s8_zero.symm))
def s4 (c : B) : B := s1 (s1 (s1 (s1 c)))
theorem s4_xor (a b : B) : s4 (a ^^^ b) = s4 a ^^^ s4 b := by simp only [s4, s1_xor]
def nibB : List B := [0x00000000, 0x105ec76f, 0x20bd8ede, 0x30e349b1, 0x417b1dbc, 0x5125dad3, 0x61c69362, 0x7198540d, 0x82f63b78, 0x92a8fc17, 0xa24bb5a6, 0xb21572c9, 0xc38d26c4, 0xd3d3e1ab, 0xe330a81a, 0xf36e6f75]
theorem nib_all : ∀ i : Fin 16, s4 (BitVec.ofNat 32 i.val) = nibB.getD i.val 0 := by decide
theorem s1_shl (x : B) (h : x.getLsbD 31 = false) : s1 (x <<< 1) = x := by
  unfold s1
  apply BitVec.eq_of_getLsbD_eq
  intro i hi
  by_cases hi' : i = 31
  · subst hi'; rw [h]; simp
  · have : i < 31 := by omega
    simp [Nat.add_comm]; omega
theorem s4_shl (x : B) (h : ∀ i, 28 ≤ i → x.getLsbD i = false) : s4 (x <<< 4) = x := by
  have e : x <<< 4 = (((x <<< 1) <<< 1) <<< 1) <<< 1 := by simp only [← BitVec.shiftLeft_add]
  have h31 : x[31] = false := h 31 (by omega)
  have h30 : x[30] = false := h 30 (by omega)
  have h29 : x[29] = false := h 29 (by omega)
  have h28 : x[28] = false := h 28 (by omega)
  rw [e]; unfold s4
  rw [s1_shl, s1_shl, s1_shl, s1_shl] <;> simp [h31, h30, h29, h28]
theorem split4 (c : B) : c = ((c >>> 4) <<< 4) ^^^ (c &&& 15#32) := by
  apply BitVec.eq_of_getLsbD_eq
  intro i hi
  have e15 : (15#32 : B) = BitVec.ofNat 32 (2^4 - 1) := rfl
  have hh : (15#32 : B).getLsbD i = decide (i < 4) := by
    rw [e15, BitVec.getLsbD_ofNat, Nat.testBit_two_pow_sub_one]; simp; omega
  rw [BitVec.getLsbD_xor, BitVec.getLsbD_and, hh]
  by_cases h4 : i < 4
  · simp [h4]
  · simp [h4, hi, show 4 + (i - 4) = i by omega]
theorem and15B (c : B) : ∃ i : Fin 16, c &&& 15#32 = BitVec.ofNat 32 i.val ∧ i.val = c.toNat % 16 := by
  refine ⟨⟨c.toNat % 16, by omega⟩, ?_, rfl⟩
  apply BitVec.eq_of_toNat_eq
  simp
  have := Nat.and_two_pow_sub_one_eq_mod c.toNat 4
  simp at this; rw [this]; omega
theorem nib_step (c : B) : (c >>> 4) ^^^ nibB.getD (c.toNat % 16) 0 = s4 c := by
  obtain ⟨i, h1, h2⟩ := and15B c
  have hn := nib_all i
  have hs : s4 c = s4 (((c >>> 4) <<< 4) ^^^ (c &&& 15#32)) := congrArg s4 (split4 c)
  rw [hs, s4_xor, s4_shl, h1, hn, h2]
  intro i hi; rw [BitVec.getLsbD_ushiftRight]; exact BitVec.getLsbD_of_ge _ _ (by omega)
/-! ### the register as a number -/
def I (c : B) : Int := (c.toNat : Int)
theorem I_inj {a b : B} (h : I a = I b) : a = b := by unfold I at h; exact BitVec.eq_of_toNat_eq (by omega)
theorem I_range (a : B) : 0 ≤ I a ∧ I a ≤ 4294967295 := by unfold I; have := a.isLt; omega
theorem I_of {x : Int} (h0 : 0 ≤ x) (h1 : x ≤ 4294967295) : x = I (BitVec.ofInt 32 x) := by
  unfold I; rw [BitVec.toNat_ofInt]; omega
theorem ofI (a : B) : BitVec.ofInt IntKind.u32.bits (I a) = a := by
  unfold I
  apply BitVec.eq_of_toNat_eq
  rw [BitVec.ofInt_natCast]
  show (BitVec.ofNat 32 a.toNat).toNat = _
  rw [BitVec.toNat_ofNat]; exact Nat.mod_eq_of_lt a.isLt
theorem wrap_I (a : B) : IntKind.u32.wrap ((a.toNat : Nat) : Int) = I a := by
  have := a.isLt
  unfold IntKind.wrap I
  simp [IntKind.signed, IntKind.bits]; omega
theorem I_xor (a b : B) : bitop .xor .u32 (I a) (I b) = I (a ^^^ b) := by
  unfold bitop
  simp only [ofI]
  exact wrap_I (a ^^^ b)
theorem I_and15 (c : B) : bitop .and .u32 (I c) 15 = ((c.toNat % 16 : Nat) : Int) := by
  unfold bitop
  simp only [ofI]
  show IntKind.u32.wrap (((c &&& 15#32).toNat : Nat) : Int) = _
  rw [wrap_I]
  unfold I
  congr 1
  rw [BitVec.toNat_and]
  exact Nat.and_two_pow_sub_one_eq_mod c.toNat 4
theorem I_shr4 (c : B) : shrv .u32 (I c) 4 = I (c >>> 4) := by
  unfold shrv I
  rw [BitVec.toNat_ushiftRight, Nat.shiftRight_eq_div_pow, show min (4 : Int).toNat IntKind.u32.bits = 4 by decide]
  simp
def nibI : Nat → Int
  | 0 => 0 | 1 => 274646895 | 2 => 549293790 | 3 => 820201905 | 4 => 1098587580 | 5 => 1361435347 | 6 => 1640403810 | 7 => 1905808397
  | 8 => 2197175160 | 9 => 2460548119 | 10 => 2722870694 | 11 => 2987750089 | 12 => 3280807620 | 13 => 3553878443 | 14 => 3811616794 | _ => 4084100981
theorem nib_eq : ∀ i : Fin 16, nibI i.val = I (nibB.getD i.val 0) := by decide
theorem half_I (c : B) : bitop .xor .u32 (shrv .u32 (I c) 4) (nibI (c.toNat % 16)) = I (s4 c) := by
  rw [I_shr4]
  have := nib_eq ⟨c.toNat % 16, by omega⟩
  simp only at this
  rw [this, I_xor, nib_step]
theorem step_go {R : Type} (rc : Int → Int → Option R) (e0 : Int → Option R) (k : Nat) (c : B) (v : Int) (hv : v < 2) : crc_step_l0s rc e0 k (I c) v = rc (I (s4 c)) (wrap64 (v + 1)) := by
  unfold crc_step_l0s
  rw [cond_t (decide_eq_true hv), I_and15]
  have key := half_I c
  have h16 : c.toNat % 16 < 16 := by omega
  generalize c.toNat % 16 = i at *
  obtain rfl | rfl | rfl | rfl | rfl | rfl | rfl | rfl | rfl | rfl | rfl | rfl | rfl | rfl | rfl | rfl : i = 0 ∨ i = 1 ∨ i = 2 ∨ i = 3 ∨ i = 4 ∨ i = 5 ∨ i = 6 ∨ i = 7 ∨ i = 8 ∨ i = 9 ∨ i = 10 ∨ i = 11 ∨ i = 12 ∨ i = 13 ∨ i = 14 ∨ i = 15 := by omega
  all_goals exact congrArg (fun z => rc z (wrap64 (v + 1))) key
theorem step_end {R : Type} (rc : Int → Int → Option R) (e0 : Int → Option R) (k : Nat) (c : Int) (v : Int) (hv : ¬ v < 2) : crc_step_l0s rc e0 k c v = e0 c := by
  unfold crc_step_l0s
  rw [cond_f (decide_eq_false hv)]
theorem step_I (d : Nat) (c : B) : crc_step (d + 300) (I c) = some (I (s8 c)) := by
  unfold crc_step
  show crc_step_l0s (crc_step_l0 _ _ (d + 299)) _ _ _ _ = _
  rw [step_go _ _ _ _ _ (by decide), w64 (by decide) (by decide)]
  show crc_step_l0s (crc_step_l0 _ _ (d + 298)) _ _ _ _ = _
  rw [step_go _ _ _ _ _ (by decide), w64 (by decide) (by decide)]
  show crc_step_l0s (crc_step_l0 _ _ (d + 297)) _ _ _ _ = _
  rw [step_end _ _ _ _ _ (by decide)]
  rfl
def s8n : Nat → B → B
  | 0, c => c
  | n + 1, c => s8n n (s8 c)
theorem s8n_add (m : Nat) : ∀ (n : Nat) (c : B), s8n (m + n) c = s8n n (s8n m c) := by
  induction m with
  | zero => intro n c; simp [s8n]
  | succ m ih => intro n c; rw [show m + 1 + n = (m + n) + 1 by omega]; simp only [s8n]; rw [ih]
theorem s8n_xor (m : Nat) : ∀ a b : B, s8n m (a ^^^ b) = s8n m a ^^^ s8n m b := by
  induction m with
  | zero => intro a b; rfl
  | succ m ih => intro a b; simp only [s8n, s8_xor, ih]
theorem s8n_zero (m : Nat) : s8n m 0#32 = 0#32 := by
  induction m with
  | zero => rfl
  | succ m ih => simp only [s8n, s8_zero, ih]
theorem s8n_inj (m : Nat) : ∀ {a b : B}, s8n m a = s8n m b → a = b := by
  induction m with
  | zero => intro a b h; exact h
  | succ m ih => intro a b h; exact s8_inj (ih h)
/-! ### the sum over bytes -/
def upd (c : B) (l : List UInt8) : B := l.foldl (fun c b => s8 (c ^^^ BitVec.ofNat 32 b.toNat)) c
def updAll (c : B) (ps : List ByteArray) : B := ps.foldl (fun c p => upd c p.data.toList) c
def total (ps : List ByteArray) : Nat := (ps.map fun p => p.size).sum
def ones : B := 4294967295#32
theorem upd_append (c : B) (a b : List UInt8) : upd c (a ++ b) = upd (upd c a) b := by unfold upd; rw [List.foldl_append]
theorem upd_xor (l : List UInt8) : ∀ c x : B, upd (c ^^^ x) l = upd c l ^^^ s8n l.length x := by
  induction l with
  | nil => intro c x; rfl
  | cons b l ih =>
    intro c x
    show upd (s8 ((c ^^^ x) ^^^ BitVec.ofNat 32 b.toNat)) l = upd (s8 (c ^^^ BitVec.ofNat 32 b.toNat)) l ^^^ s8n l.length (s8 x)
    rw [show (c ^^^ x) ^^^ BitVec.ofNat 32 b.toNat = (c ^^^ BitVec.ofNat 32 b.toNat) ^^^ x by rw [BitVec.xor_assoc, BitVec.xor_comm x, ← BitVec.xor_assoc], s8_xor, ih]
theorem bt_drop (s : ByteArray) (i : Nat) (b : UInt8) (l : List UInt8) (h : s.data.toList.drop i = b :: l) : bt s i = (b.toNat : Int) ∧ i < s.size ∧ s.data.toList.drop (i + 1) = l := by
  have hi : i < s.data.toList.length := by
    rcases Nat.lt_or_ge i s.data.toList.length with h1 | h1
    · exact h1
    · rw [List.drop_eq_nil_of_le h1] at h; cases h
  rw [List.drop_eq_getElem_cons hi] at h
  injection h with h1 h2
  have hs : i < s.size := by simpa using hi
  refine ⟨?_, hs, h2⟩
  unfold bt
  rw [dif_pos (show (i : Int).toNat < s.size by simpa using hs), ← h1]
  rfl
theorem sum_l1 {R : Type} (e0 : Int → Option R) (d : Nat) (s : ByteArray) (hs : s.size ≤ 1099511627776) (l : List UInt8) : ∀ (i : Nat) (j : Nat) (c : B), s.data.toList.drop i = l → l.length < j →
    crc_Sum_l1 e0 (d + 300) s (sizeI s) j (I c) i = e0 (I (upd c l)) := by
  induction l with
  | nil =>
    intro i j c hd hj
    obtain ⟨j, rfl⟩ : ∃ u, j = u + 1 := ⟨j - 1, by omega⟩
    have : s.data.toList.length ≤ i := List.drop_eq_nil_iff.1 hd
    have hl : s.data.toList.length = s.size := by simp
    show crc_Sum_l1s _ _ _ _ _ _ _ = _
    unfold crc_Sum_l1s
    rw [cond_f (decide_eq_false (by rw [sizeI_eq]; omega))]
    rfl
  | cons b l ih =>
    intro i j c hd hj
    rw [List.length_cons] at hj
    obtain ⟨j, rfl⟩ : ∃ u, j = u + 1 := ⟨j - 1, by omega⟩
    obtain ⟨h1, h2, h3⟩ := bt_drop s i b l hd
    have hb := b.toNat_lt
    show crc_Sum_l1s _ _ _ _ _ _ _ = _
    unfold crc_Sum_l1s
    rw [cond_t (decide_eq_true (by rw [sizeI_eq]; omega)), cond_t (by rw [sizeI_eq]; simp; omega), h1, show IntKind.u32.wrap (b.toNat : Int) = I (BitVec.ofNat 32 b.toNat) by
      unfold IntKind.wrap I; rw [BitVec.toNat_ofNat]; simp [IntKind.signed, IntKind.bits]; omega, I_xor, step_I, optb_some, w64 (by omega) (by omega), show (i : Int) + 1 = ((i + 1 : Nat) : Int) by omega]
    exact ih (i + 1) j _ h3 (by omega)
theorem sum_l0 (d : Nat) (L : List ByteArray) (hL : L.length ≤ 1099511627776) (hz : ∀ p ∈ L, p.size ≤ 1099511627776 ∧ p.size < d + 300) (ps : List ByteArray) : ∀ (i j : Nat) (c : B), L.drop i = ps → ps.length < j →
    crc_Sum_l0 (fun c => some (bitop .xor .u32 4294967295 c)) (d + 300) L (lenI L) j (I c) i = some (I (ones ^^^ updAll c ps)) := by
  induction ps with
  | nil =>
    intro i j c hd hj
    obtain ⟨j, rfl⟩ : ∃ u, j = u + 1 := ⟨j - 1, by omega⟩
    have : L.length ≤ i := List.drop_eq_nil_iff.1 hd
    show crc_Sum_l0s _ _ _ _ _ _ _ = _
    unfold crc_Sum_l0s
    rw [cond_f (decide_eq_false (by rw [lenI_eq]; omega))]
    exact congrArg some (I_xor ones c)
  | cons p ps ih =>
    intro i j c hd hj
    rw [List.length_cons] at hj
    obtain ⟨j, rfl⟩ : ∃ u, j = u + 1 := ⟨j - 1, by omega⟩
    have hi : i < L.length := by
      rcases Nat.lt_or_ge i L.length with h1 | h1
      · exact h1
      · rw [List.drop_eq_nil_of_le h1] at hd; cases hd
    have hd' := hd
    rw [List.drop_eq_getElem_cons hi] at hd'
    injection hd' with h1 h2
    have hp := hz p (h1 ▸ List.getElem_mem hi)
    show crc_Sum_l0s _ _ _ _ _ _ _ = _
    unfold crc_Sum_l0s
    rw [cond_t (decide_eq_true (by rw [lenI_eq]; omega)), cond_t (decide_eq_true (by omega)), show (i : Int).toNat = i from rfl, List.getElem?_eq_getElem hi, h1, optb_some]
    refine (sum_l1 _ d p hp.1 p.data.toList 0 (d + 300) c rfl (by simp; omega)).trans ?_
    rw [w64 (by omega) (by omega), show (i : Int) + 1 = ((i + 1 : Nat) : Int) by omega]
    exact ih (i + 1) j _ h2 (by omega)
theorem sum_eq (d : Nat) (b : Bool) (L : List ByteArray) (hL : L.length < d + 300) (hL' : L.length ≤ 1099511627776) (hz : ∀ p ∈ L, p.size ≤ 1099511627776 ∧ p.size < d + 300) : crc_Sum (d + 300) b L = some (I (ones ^^^ updAll ones L)) :=
  sum_l0 d L hL' hz L 0 (d + 300) ones rfl hL
/-! ### texts, number by number -/
def bN (s : ByteArray) (i : Nat) : Nat := if h : i < s.size then (s[i]'h).toNat else 0
theorem bN_lt (s : ByteArray) (i : Nat) : bN s i < 256 := by
  unfold bN
  split
  · exact (s[i]).toNat_lt
  · decide
theorem bt_bN (s : ByteArray) (i : Nat) : bt s (i : Int) = (bN s i : Int) := by
  unfold bt bN
  rw [show (i : Int).toNat = i from rfl]
  split <;> rfl
theorem bN_out (s : ByteArray) (i : Nat) (h : s.size ≤ i) : bN s i = 0 := by unfold bN; rw [dif_neg (by omega)]
def Lf (n : Nat) (f : Nat → Nat) : List Int := (List.range n).map fun i => ((f i : Nat) : Int)
theorem Lf_len (n : Nat) (f : Nat → Nat) : (Lf n f).length = n := by unfold Lf; simp
theorem Lf_lenI (n : Nat) (f : Nat → Nat) : lenI (Lf n f) = n := by rw [lenI_eq, Lf_len]
theorem Lf_get (n : Nat) (f : Nat → Nat) (i : Nat) (h : i < n) : (Lf n f)[i]? = some ((f i : Nat) : Int) := by
  unfold Lf
  rw [List.getElem?_map, List.getElem?_range h]; rfl
theorem Lf_congr (n : Nat) {f g : Nat → Nat} (h : ∀ i, i < n → f i = g i) : Lf n f = Lf n g := by
  unfold Lf
  refine List.map_congr_left fun i hi => ?_
  rw [h i (List.mem_range.1 hi)]
theorem Lf_set (n : Nat) (f : Nat → Nat) (i v : Nat) : List.set (Lf n f) i ((v : Nat) : Int) = Lf n (fun j => if j = i then v else f j) := by
  apply List.ext_getElem?
  intro j
  rw [List.getElem?_set]
  by_cases hj : j < n
  · rw [Lf_get n _ j hj, Lf_get n _ j hj, Lf_len]
    by_cases e : i = j
    · subst e; rw [if_pos rfl, if_pos hj, if_pos rfl]
    · rw [if_neg e, if_neg (Ne.symm e)]
  · rw [List.getElem?_eq_none (l := Lf n (fun j => if j = i then v else f j)) (i := j) (by rw [Lf_len]; omega), Lf_len]
    by_cases e : i = j
    · subst e; rw [if_pos rfl, if_neg hj]
    · rw [if_neg e]; exact List.getElem?_eq_none (by rw [Lf_len]; omega)
theorem Lf_rep (n : Nat) : List.replicate n (0 : Int) = Lf n (fun _ => 0) := by
  apply List.ext_getElem?
  intro j
  by_cases hj : j < n
  · rw [Lf_get n _ j hj, List.getElem?_replicate, if_pos hj]; rfl
  · rw [List.getElem?_eq_none (by simpa using hj), List.getElem?_eq_none (by rw [Lf_len]; omega)]
theorem xor_lt {a b : Nat} (ha : a < 256) (hb : b < 256) : a ^^^ b < 256 := Nat.xor_lt_two_pow (n := 8) ha hb
theorem u8w (x : Int) : IntKind.u8.wrap x = x % 256 := by simp [IntKind.wrap, IntKind.signed, IntKind.bits]
theorem xor8 (a y : Nat) (ha : a < 256) (hy : y < 256) : bitop .xor .u8 (a : Int) (y : Int) = ((a ^^^ y : Nat) : Int) := by
  have hx := xor_lt ha hy
  unfold bitop
  simp only [BitVec.ofInt_natCast]
  rw [u8w, BitVec.toNat_xor, BitVec.toNat_ofNat, BitVec.toNat_ofNat, show IntKind.u8.bits = 8 from rfl, Nat.mod_eq_of_lt (show a < 2 ^ 8 by omega), Nat.mod_eq_of_lt (show y < 2 ^ 8 by omega)]
  omega
/-! ### the sum, byte by byte -/
def U (c : B) (f : Nat → Nat) : Nat → B
  | 0 => c
  | n + 1 => s8 (U c f n ^^^ BitVec.ofNat 32 (f n))
theorem U_congr (c : B) {f g : Nat → Nat} : ∀ n : Nat, (∀ i, i < n → f i = g i) → U c f n = U c g n
  | 0, _ => rfl
  | n + 1, h => by show s8 _ = s8 _; rw [U_congr c n fun i hi => h i (by omega), h n (by omega)]
theorem U_xor (c x : B) (f y g : Nat → Nat) (hg : ∀ i, BitVec.ofNat 32 (g i) = BitVec.ofNat 32 (f i) ^^^ BitVec.ofNat 32 (y i)) : ∀ n, U (c ^^^ x) g n = U c f n ^^^ U x y n
  | 0 => rfl
  | n + 1 => by
    show s8 (U (c ^^^ x) g n ^^^ BitVec.ofNat 32 (g n)) = s8 (U c f n ^^^ BitVec.ofNat 32 (f n)) ^^^ s8 (U x y n ^^^ BitVec.ofNat 32 (y n))
    rw [U_xor c x f y g hg n, hg, ← s8_xor]
    congr 1
    rw [BitVec.xor_assoc, BitVec.xor_assoc, ← BitVec.xor_assoc (U x y n), BitVec.xor_comm (U x y n), BitVec.xor_assoc (BitVec.ofNat 32 (f n))]
theorem ofNat_xor {a b : Nat} (ha : a < 256) (hb : b < 256) : BitVec.ofNat 32 (a ^^^ b) = BitVec.ofNat 32 a ^^^ BitVec.ofNat 32 b := by
  have hx := xor_lt ha hb
  apply BitVec.eq_of_toNat_eq
  rw [BitVec.toNat_xor, BitVec.toNat_ofNat, BitVec.toNat_ofNat, BitVec.toNat_ofNat, Nat.mod_eq_of_lt (by omega), Nat.mod_eq_of_lt (by omega), Nat.mod_eq_of_lt (by omega)]
theorem upd_U (s : ByteArray) (c : B) : ∀ n : Nat, n ≤ s.size → upd c (s.data.toList.take n) = U c (bN s) n
  | 0, _ => rfl
  | n + 1, h => by
    have hl : s.data.toList.length = s.size := by simp
    have hn : n < s.data.toList.length := by omega
    rw [List.take_add_one, List.getElem?_eq_getElem hn, Option.toList_some, upd_append, upd_U s c n (by omega)]
    show s8 (_ ^^^ BitVec.ofNat 32 (s.data.toList[n]).toNat) = s8 (_ ^^^ BitVec.ofNat 32 (bN s n))
    have : bN s n = (s.data.toList[n]).toNat := by unfold bN; rw [dif_pos (by omega)]; rfl
    rw [this]
theorem updU (s : ByteArray) (c : B) : upd c s.data.toList = U c (bN s) s.size := by
  rw [← upd_U s c s.size (Nat.le_refl _), List.take_of_length_le (by simp)]
theorem sum_U (d : Nat) (s : ByteArray) (h : s.size ≤ 5000) : crc_Sum (9700 + d + 300) false [s] = some (I (ones ^^^ U ones (bN s) s.size)) := by
  rw [sum_eq (9700 + d) false [s] (by simp) (by simp) (fun p hp => by rw [List.mem_singleton.1 hp]; omega)]
  show some (I (ones ^^^ upd ones s.data.toList)) = _
  rw [updU]
theorem Lf_bytes (n : Nat) (f : Nat → Nat) (hf : ∀ i, f i < 256) (i : Nat) (hi : i < n) : bN (bytesOf (Lf n f)) i = f i := by
  have h := bt_of (Lf n f) i (Lf_get n f i hi) (by omega) (by have := hf i; omega)
  rw [bt_bN] at h
  omega
theorem Lf_size (n : Nat) (f : Nat → Nat) : (bytesOf (Lf n f)).size = n := by rw [bytesOf_size, Lf_len]
theorem intsOf_Lf (s : ByteArray) : intsOf s = Lf s.size (bN s) := by
  have hl : s.data.toList.length = s.size := by simp
  apply List.ext_getElem?
  intro j
  unfold intsOf
  rw [List.getElem?_map]
  by_cases hj : j < s.size
  · rw [Lf_get _ _ j hj, List.getElem?_eq_getElem (by omega)]
    have : bN s j = (s.data.toList[j]'(by omega)).toNat := by unfold bN; rw [dif_pos hj]; rfl
    rw [this]; rfl
  · rw [List.getElem?_eq_none (by omega), List.getElem?_eq_none (by rw [Lf_len]; omega)]; rfl
theorem speaks02 (d : Nat) : corbellaw02_speaks (d + 300) = some true := by kernel_rfl
/-! ### four bytes in a row -/
theorem s8_shl (x : B) (h : x.toNat < 16777216) : s8 (x <<< 8) = x := by
  have hb : ∀ i, 24 ≤ i → x.getLsbD i = false := fun i hi => by
    rw [BitVec.getLsbD]
    refine Nat.testBit_lt_two_pow (Nat.lt_of_lt_of_le h ?_)
    exact (show 16777216 = 2 ^ 24 by decide) ▸ Nat.pow_le_pow_right (by decide) hi
  have e : x <<< 8 = (x <<< 4) <<< 4 := by rw [← BitVec.shiftLeft_add]
  show s4 (s4 (x <<< 8)) = x
  rw [e, s4_shl, s4_shl]
  · intro i hi; exact hb i (by omega)
  · intro i hi
    rw [BitVec.getLsbD_shiftLeft]
    rw [hb (i - 4) (by omega)]
    simp
theorem s8_un {a b : B} (h : s8 a = b) (hb : b.toNat < 16777216) : a = b <<< 8 := s8_inj (h.trans (s8_shl b hb).symm)
theorem shl_nat (b : B) (h : b.toNat < 16777216) : (b <<< 8).toNat = b.toNat * 256 := by
  rw [BitVec.toNat_shiftLeft, Nat.shiftLeft_eq]; omega
theorem byte_nat {y : Nat} (h : y < 256) : (BitVec.ofNat 32 y).toNat = y := by rw [BitVec.toNat_ofNat]; omega
theorem byte_shl {y : Nat} {z : B} (hy : y < 256) (hz : z.toNat < 16777216) (h : BitVec.ofNat 32 y = z <<< 8) : y = 0 ∧ z = 0#32 := by
  have h1 := congrArg BitVec.toNat h
  rw [byte_nat hy, shl_nat z hz] at h1
  exact ⟨by omega, BitVec.eq_of_toNat_eq (by show z.toNat = 0; omega)⟩
theorem mix_lt {y : Nat} {z : B} (hy : y < 256) (e : Nat) (he : e ≤ 24) (he8 : 8 ≤ e) (hz : z.toNat * 256 < 2 ^ e) : (BitVec.ofNat 32 y ^^^ z <<< 8).toNat < 2 ^ e := by
  have h24 : 2 ^ e ≤ 2 ^ 24 := Nat.pow_le_pow_right (by decide) he
  have h8 : 2 ^ 8 ≤ 2 ^ e := Nat.pow_le_pow_right (by decide) he8
  rw [BitVec.toNat_xor, byte_nat hy, shl_nat z (by omega)]
  exact Nat.xor_lt_two_pow (by omega) hz
theorem xor_swap {a b c : B} (h : a ^^^ b = c) : a = b ^^^ c := by rw [← h, BitVec.xor_comm a b, ← BitVec.xor_assoc, BitVec.xor_self, BitVec.zero_xor]
theorem four {y0 y1 y2 y3 : Nat} (h0 : y0 < 256) (h1 : y1 < 256) (h2 : y2 < 256) (h3 : y3 < 256)
    (h : s8 (s8 (s8 (s8 (BitVec.ofNat 32 y0) ^^^ BitVec.ofNat 32 y1) ^^^ BitVec.ofNat 32 y2) ^^^ BitVec.ofNat 32 y3) = 0#32) : y0 = 0 ∧ y1 = 0 ∧ y2 = 0 ∧ y3 = 0 := by
  have a3 := s8_inj (h.trans s8_zero.symm)
  have b3 := xor_swap a3
  rw [BitVec.xor_zero] at b3
  have l3 : (BitVec.ofNat 32 y3).toNat < 16777216 := by rw [byte_nat h3]; omega
  have a2 := xor_swap (s8_un b3 l3)
  have l2 := mix_lt h2 16 (by decide) (by decide) (z := BitVec.ofNat 32 y3) (by rw [byte_nat h3]; omega)
  have a1 := xor_swap (s8_un a2 (by omega))
  have l1 := mix_lt h1 24 (by decide) (by decide) (z := BitVec.ofNat 32 y2 ^^^ BitVec.ofNat 32 y3 <<< 8) (by omega)
  have a0 := s8_un a1 (by omega)
  obtain ⟨r0, r1⟩ := byte_shl h0 (by omega) a0
  have q1 := xor_swap r1
  rw [BitVec.xor_zero] at q1
  obtain ⟨r1', r2⟩ := byte_shl (z := BitVec.ofNat 32 y2 ^^^ BitVec.ofNat 32 y3 <<< 8) h1 (by omega) (by
    have := congrArg (fun z => BitVec.ofNat 32 y1 ^^^ z) r1
    simp only [← BitVec.xor_assoc, BitVec.xor_self, BitVec.zero_xor, BitVec.xor_zero] at this
    exact this.symm)
  obtain ⟨r2', r3⟩ := byte_shl (z := BitVec.ofNat 32 y3) h2 l3 (by
    have := congrArg (fun z => BitVec.ofNat 32 y2 ^^^ z) r2
    simp only [← BitVec.xor_assoc, BitVec.xor_self, BitVec.zero_xor, BitVec.xor_zero] at this
    exact this.symm)
  refine ⟨r0, r1', r2', ?_⟩
  have := congrArg BitVec.toNat r3
  rw [byte_nat h3] at this
  exact this
/-! ### the loop -/
def ys (a b c d : Nat) : Nat → Nat
  | 0 => a | 1 => b | 2 => c | _ => d
def YF (y : Nat → Nat) (at' i j : Nat) : Nat := if at' ≤ j ∧ j < at' + i then y (j - at') else 0
def chg (y : Nat → Nat) : Nat → Bool
  | 0 => false
  | i + 1 => chg y i || !decide ((y i : Int) = 0)
theorem chg_iff (y : Nat → Nat) : ∀ n, chg y n = false ↔ ∀ q, q < n → y q = 0
  | 0 => ⟨fun _ q h => absurd h (by omega), fun _ => rfl⟩
  | n + 1 => by
    show (chg y n || !decide ((y n : Int) = 0)) = false ↔ _
    rw [Bool.or_eq_false_iff, chg_iff y n, Bool.not_eq_false', decide_eq_true_iff]
    refine ⟨fun ⟨h1, h2⟩ q hq => ?_, fun h => ⟨fun q hq => h q (by omega), by have := h n (by omega); omega⟩⟩
    by_cases e : q = n
    · rw [e]; omega
    · exact h1 q (by omega)
theorem j2_or {R : Type} (e0 : Bool → Option R) (k : Nat) (ch : Bool) (i : Nat) (hi : i < 4) (a b c d : Nat) :
    corbellaw02_CrcTells_j2 e0 k ch (i : Int) (a : Int) (b : Int) (c : Int) (d : Int) = e0 (ch || !decide ((ys a b c d i : Int) = 0)) := by
  unfold corbellaw02_CrcTells_j2
  cases ch with
  | true => rfl
  | false =>
    obtain rfl | rfl | rfl | rfl : i = 0 ∨ i = 1 ∨ i = 2 ∨ i = 3 := by omega
    all_goals rfl
theorem tell_step {R : Type} (rc : Bool → Int → List Int → Option R) (e0 : Bool → List Int → Option R) (k n at' : Nat) (hn : n ≤ 5000) (f : Nat → Nat) (hf : ∀ i, f i < 256) (a b c d : Nat) (ha : a < 256) (hb : b < 256) (hc : c < 256) (hd : d < 256) (i : Nat) (hi : i < 4) (hi' : at' + i < n) (ch : Bool) :
    corbellaw02_CrcTells_l1s rc e0 k (at' : Int) (a : Int) (b : Int) (c : Int) (d : Int) ch (i : Int) (Lf n f) = rc (ch || !decide ((ys a b c d i : Int) = 0)) ((i + 1 : Nat) : Int) (Lf n (fun j => if j = at' + i then f (at' + i) ^^^ ys a b c d i else f j)) := by
  unfold corbellaw02_CrcTells_l1s
  rw [cond_t (decide_eq_true (by omega)), Lf_lenI, w64 (n := (n : Int) - at') (by omega) (by omega), cond_t (decide_eq_true (by omega)), w64 (n := (at' : Int) + i) (by omega) (by omega), decide_eq_true (show (0 : Int) ≤ (at' : Int) + i by omega), decide_eq_true (show (at' : Int) + i < n by omega), Bool.and_self, cond_true, show (at' : Int) + i = ((at' + i : Nat) : Int) by omega, show (((at' + i : Nat) : Int)).toNat = at' + i from rfl, Lf_get n f _ hi', optb_some]
  simp only [j2_or _ _ _ i hi, cond_true, optb_some]
  have hw : wrap64 ((i : Int) + 1) = ((i + 1 : Nat) : Int) := by rw [w64 (by omega) (by omega)]; omega
  unfold corbellaw02_CrcTells_k2 corbellaw02_CrcTells_j3
  simp only [hw, xor8 _ _ (hf _) ha, xor8 _ _ (hf _) hb, xor8 _ _ (hf _) hc, xor8 _ _ (hf _) hd, Lf_set]
  obtain rfl | rfl | rfl | rfl : i = 0 ∨ i = 1 ∨ i = 2 ∨ i = 3 := by omega
  all_goals rfl
theorem tell_go {R : Type} (e0 : Bool → List Int → Option R) (k n at' : Nat) (hn : n ≤ 5000) (f : Nat → Nat) (hf : ∀ i, f i < 256) (a b c d : Nat) (ha : a < 256) (hb : b < 256) (hc : c < 256) (hd : d < 256) (ht : at' < n) : ∀ (m i j : Nat), min 4 (n - at') - i = m → i ≤ min 4 (n - at') → m < j →
    corbellaw02_CrcTells_l1 e0 k (at' : Int) (a : Int) (b : Int) (c : Int) (d : Int) j (chg (ys a b c d) i) (i : Int) (Lf n (fun j => f j ^^^ YF (ys a b c d) at' i j)) = e0 (chg (ys a b c d) (min 4 (n - at'))) (Lf n (fun j => f j ^^^ YF (ys a b c d) at' (min 4 (n - at')) j)) := by
  have hys : ∀ i, ys a b c d i < 256 := fun i => by
    unfold ys; split <;> assumption
  intro m
  induction m with
  | zero =>
    intro i j hm hi hj
    obtain ⟨j, rfl⟩ : ∃ u, j = u + 1 := ⟨j - 1, by omega⟩
    show corbellaw02_CrcTells_l1s _ _ _ _ _ _ _ _ _ _ _ = _
    unfold corbellaw02_CrcTells_l1s
    rw [Lf_lenI, w64 (n := (n : Int) - at') (by omega) (by omega), show min 4 (n - at') = i by omega]
    by_cases h4 : (i : Int) < 4
    · rw [cond_t (decide_eq_true h4), cond_f (decide_eq_false (by omega))]
    · rw [cond_f (decide_eq_false h4)]
  | succ m ih =>
    intro i j hm hi hj
    obtain ⟨j, rfl⟩ : ∃ u, j = u + 1 := ⟨j - 1, by omega⟩
    have hlt : ∀ x, (fun j => f j ^^^ YF (ys a b c d) at' i j) x < 256 := fun x => xor_lt (hf x) (by unfold YF; split; exact hys _; decide)
    refine (tell_step _ e0 k n at' hn _ hlt a b c d ha hb hc hd i (by omega) (by omega) _).trans ?_
    have he : Lf n (fun j => if j = at' + i then (f (at' + i) ^^^ YF (ys a b c d) at' i (at' + i)) ^^^ ys a b c d i else f j ^^^ YF (ys a b c d) at' i j) = Lf n (fun j => f j ^^^ YF (ys a b c d) at' (i + 1) j) := Lf_congr n fun x hx => by
      unfold YF
      by_cases e : x = at' + i
      · rw [if_pos e, if_neg (by omega), if_pos (by omega), e, Nat.xor_zero, show at' + i - at' = i by omega]
      · rw [if_neg e]
        by_cases c1 : at' ≤ x ∧ x < at' + i
        · rw [if_pos c1, if_pos (by omega)]
        · rw [if_neg c1, if_neg (by omega)]
    rw [he]
    exact ih (i + 1) j (by omega) (by omega) (by omega)
/-! ### the sum tells -/
theorem U_none (y : Nat → Nat) : ∀ n : Nat, (∀ i, i < n → y i = 0) → U 0#32 y n = 0#32
  | 0, _ => rfl
  | n + 1, h => by
    show s8 (U 0#32 y n ^^^ BitVec.ofNat 32 (y n)) = _
    rw [U_none y n (fun i hi => h i (by omega)), h n (by omega)]; exact s8_zero
theorem U_back (y : Nat → Nat) (m : Nat) : ∀ r : Nat, (∀ i, m ≤ i → i < m + r → y i = 0) → U 0#32 y (m + r) = 0#32 → U 0#32 y m = 0#32
  | 0, _, h => h
  | r + 1, hz, h => by
    have h1 : s8 (U 0#32 y (m + r) ^^^ BitVec.ofNat 32 (y (m + r))) = 0#32 := h
    rw [hz (m + r) (by omega) (by omega), show BitVec.ofNat 32 0 = 0#32 from rfl, BitVec.xor_zero] at h1
    exact U_back y m r (fun i h2 h3 => hz i h2 (by omega)) (s8_inj (h1.trans s8_zero.symm))
theorem U_shift (y z : Nat → Nat) (m : Nat) (h0 : U 0#32 y m = 0#32) (hz : ∀ i, z i = y (m + i)) : ∀ n, U 0#32 y (m + n) = U 0#32 z n
  | 0 => h0
  | n + 1 => by
    show s8 (U 0#32 y (m + n) ^^^ BitVec.ofNat 32 (y (m + n))) = s8 (U 0#32 z n ^^^ BitVec.ofNat 32 (z n))
    rw [U_shift y z m h0 hz n, hz]
theorem U_four (z : Nat → Nat) (hz : ∀ i, z i < 256) (h : U 0#32 z 4 = 0#32) : ∀ q, q < 4 → z q = 0 := by
  have h1 : s8 (s8 (s8 (s8 (0#32 ^^^ BitVec.ofNat 32 (z 0)) ^^^ BitVec.ofNat 32 (z 1)) ^^^ BitVec.ofNat 32 (z 2)) ^^^ BitVec.ofNat 32 (z 3)) = 0#32 := h
  rw [BitVec.zero_xor] at h1
  obtain ⟨a, b, c, d⟩ := four (hz 0) (hz 1) (hz 2) (hz 3) h1
  intro q hq
  obtain rfl | rfl | rfl | rfl : q = 0 ∨ q = 1 ∨ q = 2 ∨ q = 3 := by omega
  all_goals assumption
theorem tells (n at' : Nat) (y : Nat → Nat) (hy : ∀ i, y i < 256) (ht : at' < n) : U 0#32 (YF y at' (min 4 (n - at'))) n = 0#32 ↔ chg y (min 4 (n - at')) = false := by
  rw [chg_iff]
  obtain ⟨c, hc⟩ : ∃ c, min 4 (n - at') = c := ⟨_, rfl⟩
  rw [hc]
  constructor
  · intro h q hq
    have h1 : U 0#32 (YF y at' c) (at' + c) = 0#32 := U_back _ (at' + c) (n - (at' + c)) (fun i h1 h2 => by unfold YF; rw [if_neg (by omega)]) (by rw [show at' + c + (n - (at' + c)) = n by omega]; exact h)
    have h0 : U 0#32 (YF y at' c) at' = 0#32 := U_none _ _ fun i hi => by unfold YF; rw [if_neg (by omega)]
    have h2 : U 0#32 (fun i => if i < c then y i else 0) c = 0#32 := by
      rw [← U_shift (YF y at' c) (fun i => if i < c then y i else 0) at' h0 (fun i => by
        unfold YF
        show (if i < c then y i else 0) = _
        by_cases e : i < c
        · rw [if_pos e, if_pos (by omega), show at' + i - at' = i by omega]
        · rw [if_neg e, if_neg (by omega)]) c]
      exact h1
    have h3 : ∀ r, U 0#32 (fun i => if i < c then y i else 0) (c + r) = 0#32 := by
      intro r
      induction r with
      | zero => exact h2
      | succ r ih =>
        show s8 (U 0#32 _ (c + r) ^^^ BitVec.ofNat 32 (if c + r < c then y (c + r) else 0)) = _
        rw [ih, if_neg (by omega)]; exact s8_zero
    have h4 := h3 (4 - c)
    rw [show c + (4 - c) = 4 by omega] at h4
    have h5 := U_four _ (fun i => by
      show (if i < c then y i else 0) < 256
      split
      · exact hy i
      · decide) h4 q (by omega)
    have h6 : (if q < c then y q else 0) = 0 := h5
    rw [if_pos hq] at h6
    exact h6
  · intro h
    refine U_none _ _ fun i hi => ?_
    unfold YF
    split
    · exact h _ (by omega)
    · rfl
theorem tells_k1 (s : ByteArray) (x : Int) (a b c d : Nat) (ha : a < 256) (hb : b < 256) (hc : c < 256) (hd : d < 256) (h0 : 0 < s.size) (h1 : s.size ≤ 5000) : corbellaw02_CrcTells_k1 (9700 + 0 + 300) x (a : Int) (b : Int) (c : Int) (d : Int) s = some true := by
  have p1 := Int.tmod_lt_of_pos x (show (0 : Int) < s.size by omega)
  have p2 := Int.lt_tmod_of_pos x (show (0 : Int) < s.size by omega)
  unfold corbellaw02_CrcTells_k1
  rw [sizeI_eq, cond_f (decide_eq_false (by omega)), w64 (by omega) (by omega), cond_f (decide_eq_false (by omega)), cond_t (decide_eq_true (by omega)), tmod_pos (show 0 ≤ x.tmod s.size + s.size by omega)]
  have m0 := Int.emod_nonneg (x.tmod s.size + s.size) (show (s.size : Int) ≠ 0 by omega)
  have m1 := Int.emod_lt_of_pos (x.tmod s.size + s.size) (show (0 : Int) < s.size by omega)
  obtain ⟨m, hm⟩ := Int.eq_ofNat_of_zero_le m0
  rw [hm] at m1 ⊢
  have hm1 : m < s.size := by omega
  have hys : ∀ i, ys a b c d i < 256 := fun i => by
    unfold ys; split <;> assumption
  have e0 : Lf s.size (bN s) = Lf s.size (fun j => bN s j ^^^ YF (ys a b c d) m 0 j) := Lf_congr _ fun i _ => by unfold YF; rw [if_neg (by omega), Nat.xor_zero]
  rw [intsOf_Lf, e0]
  refine (tell_go _ (9700 + 0 + 300) s.size m h1 (bN s) (bN_lt s) a b c d ha hb hc hd hm1 _ 0 _ rfl (by omega) (by omega)).trans ?_
  have hyf : ∀ i, YF (ys a b c d) m (min 4 (s.size - m)) i < 256 := fun i => by
    unfold YF; split
    · exact hys _
    · decide
  have hg : ∀ i, (fun j => bN s j ^^^ YF (ys a b c d) m (min 4 (s.size - m)) j) i < 256 := fun i => xor_lt (bN_lt s i) (hyf i)
  have hx := U_xor ones 0#32 (bN s) (YF (ys a b c d) m (min 4 (s.size - m))) (fun j => bN s j ^^^ YF (ys a b c d) m (min 4 (s.size - m)) j) (fun i => ofNat_xor (bN_lt s i) (hyf i)) s.size
  rw [BitVec.xor_zero] at hx
  have ht := tells s.size m (ys a b c d) hys hm1
  rw [sum_U 0 _ (by rw [Lf_size]; exact h1), optb_some, sum_U 0 s h1, optb_some, Lf_size, U_congr ones s.size (fun i hi => Lf_bytes _ _ hg i hi), hx]
  congr 1
  by_cases hT : U 0#32 (YF (ys a b c d) m (min 4 (s.size - m))) s.size = 0#32
  · rw [ht.1 hT, hT, BitVec.xor_zero, decide_eq_true rfl]; rfl
  · have hc : chg (ys a b c d) (min 4 (s.size - m)) = true := by
      cases h : chg (ys a b c d) (min 4 (s.size - m)) with
      | true => rfl
      | false => exact absurd (ht.2 h) hT
    rw [hc, decide_eq_false (fun h => hT (by
      have h2 := I_inj h
      rw [← BitVec.xor_assoc] at h2
      have h3 := congrArg (fun z => (ones ^^^ U ones (bN s) s.size) ^^^ z) h2
      simp only [← BitVec.xor_assoc, BitVec.xor_self, BitVec.zero_xor] at h3
      simpa using h3))]; rfl
theorem u8_of {x : Int} (h : Ty.wf (.int .u8) x) : ∃ y : Nat, x = (y : Int) ∧ y < 256 := by
  have h : (Lit.int .u8 x).wf = true := h
  have : 0 ≤ x ∧ x ≤ 255 := by simpa [Lit.wf, IntKind.min, IntKind.max, IntKind.signed, IntKind.bits] using h
  exact ⟨x.toNat, by omega, by omega⟩
theorem CrcTells : CrcTellsPure := by
  intro x0 x1 x2 w0 w1 w2
  obtain ⟨a, ea, ha⟩ := u8_of w2.1
  obtain ⟨b, eb, hb⟩ := u8_of w2.2.1
  obtain ⟨c, ec, hc⟩ := u8_of w2.2.2.1
  obtain ⟨d, ed, hd⟩ := u8_of w2.2.2.2
  refine ⟨9700 + 0 + 300, ?_⟩
  unfold corbellaw02_CrcTells
  rw [speaks02, optb_some, Bool.not_true, cond_false, sizeI_eq]
  by_cases h0 : ((ByteArray.size x0 : Nat) : Int) = 0
  · rw [decide_eq_true h0]; rfl
  · rw [decide_eq_false h0, cond_false]
    by_cases h1 : (5000 : Int) < ((ByteArray.size x0 : Nat) : Int)
    · rw [decide_eq_true h1]; rfl
    · rw [decide_eq_false h1]
      show corbellaw02_CrcTells_k1 (9700 + 0 + 300) x1 x2.1 x2.2.1 x2.2.2.1 x2.2.2.2 x0 = _
      rw [ea, eb, ec, ed]
      exact tells_k1 x0 x1 a b c d ha hb hc hd (by omega) (by omega)
end Go.Proofs.YtncdfikcdchimaaDoor.Pure
