/- CrcBits: the pure statement, over numbers and lists alone; no conditions. -/
import Derived.Test.YtncdfikcdchimaaDoorPCrcBitsx1
set_option linter.unusedVariables false
set_option linter.unusedSimpArgs false
namespace Go.Proofs.YtncdfikcdchimaaDoor.Pure
open Go.RowKit Go.Proofs.YtncdfikcdchimaaDoor.PCrcBits Go.Proofs.YtncdfikcdchimaaDoorW.PrintWords Go.Proofs.YtncdfikcdchimaaDoorW.PrintLast Go.Proofs.YtncdfikcdchimaaDoorW.PrintMore
/-! ### whole numbers -/
theorem wf_i64 {n : Int} (h : (Lit.int .i64 n).wf = true) : -9223372036854775808 ≤ n ∧ n ≤ 9223372036854775807 := by
  simpa [Lit.wf, IntKind.min, IntKind.max, IntKind.signed, IntKind.bits] using h
theorem w64 {n : Int} (h0 : -9223372036854775808 ≤ n) (h1 : n ≤ 9223372036854775807) : wrap64 n = n := by unfold wrap64; omega
theorem w_succ {i : Nat} (h : i ≤ 1000000000000) : wrap64 ((i : Int) + 1) = ((i + 1 : Nat) : Int) := by rw [w64 (by omega) (by omega)]; omega
theorem tdiv_pos {a b : Int} (ha : 0 ≤ a) : Int.tdiv a b = a / b := Int.tdiv_eq_ediv_of_nonneg ha
theorem tmod_pos {a b : Int} (ha : 0 ≤ a) : Int.tmod a b = a % b := Int.tmod_eq_emod_of_nonneg ha
theorem div_step {n c : Int} (hc : 0 < c) (h0 : 0 ≤ n) : (n % c + 1 < c ∧ (n + 1) / c = n / c ∧ (n + 1) % c = n % c + 1) ∨ (n % c + 1 = c ∧ (n + 1) / c = n / c + 1 ∧ (n + 1) % c = 0) := by
  have h1 := Int.emod_add_mul_ediv n c
  have h2 := Int.emod_nonneg n (show c ≠ 0 by omega)
  have h3 := Int.emod_lt_of_pos n hc
  rcases Int.lt_or_le (n % c + 1) c with hlt | hge
  · refine .inl ⟨hlt, ?_, ?_⟩
    · have e : n + 1 = (n % c + 1) + (n / c) * c := by rw [Int.mul_comm (n / c)]; omega
      rw [e, Int.add_mul_ediv_right _ _ (by omega), Int.ediv_eq_zero_of_lt (by omega) hlt]; omega
    · have e : n + 1 = (n % c + 1) + c * (n / c) := by omega
      conv => lhs; rw [e]
      rw [Int.add_mul_emod_self_left]; exact Int.emod_eq_of_lt (by omega) hlt
  · refine .inr ⟨by omega, ?_, ?_⟩
    · have e : n + 1 = 0 + (n / c + 1) * c := by rw [Int.add_mul, Int.one_mul, Int.mul_comm (n / c)]; omega
      rw [e, Int.add_mul_ediv_right _ _ (by omega)]; simp
    · have e : n + 1 = 0 + c * (n / c + 1) := by rw [Int.mul_add, Int.mul_one]; omega
      rw [e, Int.add_mul_emod_self_left]; simp
theorem and_mask (x : Int) (i : Nat) (hi : i ≤ 62) : Go.bits .and .i64 x (2 ^ i - 1) = x % 2 ^ i := by
  have h2 : (2 : Nat) ^ i ≤ 2 ^ 62 := Nat.pow_le_pow_right (by decide) hi
  have h62 : (2 : Nat) ^ 62 = 4611686018427387904 := by decide
  have h64 : (2 : Nat) ^ 64 = 18446744073709551616 := by decide
  have hp : 0 < 2 ^ i := Nat.two_pow_pos i
  have hc : ((2 : Int) ^ i - 1) = ((2 ^ i - 1 : Nat) : Int) := by rw [Int.natCast_sub hp]; simp
  have hd : (2 ^ i : Nat) ∣ 2 ^ 64 := Nat.pow_dvd_pow 2 (by omega)
  have hb : IntKind.i64.bits = 64 := rfl
  have key : ((BitVec.ofInt 64 x &&& BitVec.ofInt 64 (2 ^ i - 1)).toNat : Int) = x % 2 ^ i := by
    rw [hc, BitVec.ofInt_natCast, BitVec.toNat_and, BitVec.toNat_ofNat, Nat.mod_eq_of_lt (show 2 ^ i - 1 < 2 ^ 64 by omega), Nat.and_two_pow_sub_one_eq_mod, BitVec.toNat_ofInt,
      Int.natCast_emod, Int.toNat_of_nonneg (Int.emod_nonneg _ (by decide)), Int.emod_emod_of_dvd]
    · simp
    · exact Int.natCast_dvd_natCast.2 hd
  have hlt : ((BitVec.ofInt 64 x &&& BitVec.ofInt 64 (2 ^ i - 1)).toNat : Int) < 4611686018427387904 := by
    rw [key]
    have : x % ((2 ^ i : Nat) : Int) < ((2 ^ i : Nat) : Int) := Int.emod_lt_of_pos _ (by omega)
    have e : ((2 ^ i : Nat) : Int) = (2 : Int) ^ i := by simp
    rw [e] at this
    have : (2 : Int) ^ i ≤ 4611686018427387904 := by rw [← e]; omega
    omega
  show IntKind.i64.wrap ((BitVec.ofInt 64 x &&& BitVec.ofInt 64 (2 ^ i - 1)).toNat : Int) = x % 2 ^ i
  rw [IntKind.wrap_i64]
  omega
abbrev B := BitVec 32
def poly : B := 0x82f63b78#32
def s1 (c : B) : B := (c >>> 1) ^^^ (if c.getLsbD 0 then poly else 0#32)
theorem s1_xor (a b : B) : s1 (a ^^^ b) = s1 a ^^^ s1 b := by
  unfold s1
  rw [BitVec.ushiftRight_xor_distrib, BitVec.getLsbD_xor]
  cases a.getLsbD 0 <;> cases b.getLsbD 0 <;> simp
  · rw [BitVec.xor_assoc]
  · rw [BitVec.xor_assoc, BitVec.xor_assoc, BitVec.xor_comm poly]
  · rw [BitVec.xor_assoc (a >>> 1), BitVec.xor_comm poly, BitVec.xor_assoc (b >>> 1), BitVec.xor_self]; simp
theorem s1_zero : s1 0#32 = 0#32 := by decide
theorem s1_eq_zero {x : B} (h : s1 x = 0#32) : x = 0#32 := by
  unfold s1 at h
  cases hb : x.getLsbD 0 with
  | true =>
    exfalso
    rw [hb] at h
    have h31 := congrArg (fun z : B => z.getLsbD 31) h
    simp [poly] at h31
  | false =>
    rw [hb] at h
    simp at h
    apply BitVec.eq_of_getLsbD_eq
    intro i hi
    simp
    cases i with
    | zero => exact hb
    | succ i =>
      have := congrArg (fun z : B => z.getLsbD i) h
      simpa [Nat.add_comm] using this
theorem s1_inj {a b : B} (h : s1 a = s1 b) : a = b := by
  have : s1 (a ^^^ b) = 0#32 := by rw [s1_xor, h, BitVec.xor_self]
  have := s1_eq_zero this
  exact BitVec.xor_eq_zero_iff.1 this
def s8 (c : B) : B := s1 (s1 (s1 (s1 (s1 (s1 (s1 (s1 c)))))))
theorem s8_xor (a b : B) : s8 (a ^^^ b) = s8 a ^^^ s8 b := by simp only [s8, s1_xor]
theorem s8_zero : s8 0#32 = 0#32 := by decide
theorem s8_inj {a b : B} (h : s8 a = s8 b) : a = b := by unfold s8 at h; exact s1_inj (s1_inj (s1_inj (s1_inj (s1_inj (s1_inj (s1_inj (s1_inj h)))))))
theorem s8_ne {a : B} (h : a ≠ 0#32) : s8 a ≠ 0#32 := fun e => h (s8_inj (e.trans s8_zero.symm))
def s4 (c : B) : B := s1 (s1 (s1 (s1 c)))
theorem s4_xor (a b : B) : s4 (a ^^^ b) = s4 a ^^^ s4 b := by simp only [s4, s1_xor]
def nibB : List B := [0x00000000, 0x105ec76f, 0x20bd8ede, 0x30e349b1, 0x417b1dbc, 0x5125dad3, 0x61c69362, 0x7198540d, 0x82f63b78, 0x92a8fc17, 0xa24bb5a6, 0xb21572c9, 0xc38d26c4, 0xd3d3e1ab, 0xe330a81a, 0xf36e6f75]
theorem nib_all : ∀ i : Fin 16, s4 (BitVec.ofNat 32 i.val) = nibB.getD i.val 0 := by decide
theorem s1_shl (x : B) (h : x.getLsbD 31 = false) : s1 (x <<< 1) = x := by
  unfold s1
  apply BitVec.eq_of_getLsbD_eq
  intro i hi
  by_cases hi' : i = 31
  · subst hi'; rw [h]; simp
  · have : i < 31 := by omega
    simp [Nat.add_comm]; omega
theorem s4_shl (x : B) (h : ∀ i, 28 ≤ i → x.getLsbD i = false) : s4 (x <<< 4) = x := by
  have e : x <<< 4 = (((x <<< 1) <<< 1) <<< 1) <<< 1 := by simp only [← BitVec.shiftLeft_add]
  have h31 : x[31] = false := h 31 (by omega)
  have h30 : x[30] = false := h 30 (by omega)
  have h29 : x[29] = false := h 29 (by omega)
  have h28 : x[28] = false := h 28 (by omega)
  rw [e]; unfold s4
  rw [s1_shl, s1_shl, s1_shl, s1_shl] <;> simp [h31, h30, h29, h28]
theorem split4 (c : B) : c = ((c >>> 4) <<< 4) ^^^ (c &&& 15#32) := by
  apply BitVec.eq_of_getLsbD_eq
  intro i hi
  have e15 : (15#32 : B) = BitVec.ofNat 32 (2^4 - 1) := rfl
  have hh : (15#32 : B).getLsbD i = decide (i < 4) := by
    rw [e15, BitVec.getLsbD_ofNat, Nat.testBit_two_pow_sub_one]; simp; omega
  rw [BitVec.getLsbD_xor, BitVec.getLsbD_and, hh]
  by_cases h4 : i < 4
  · simp [h4]
  · simp [h4, hi, show 4 + (i - 4) = i by omega]
theorem and15B (c : B) : ∃ i : Fin 16, c &&& 15#32 = BitVec.ofNat 32 i.val ∧ i.val = c.toNat % 16 := by
  refine ⟨⟨c.toNat % 16, by omega⟩, ?_, rfl⟩
  apply BitVec.eq_of_toNat_eq
  simp
  have := Nat.and_two_pow_sub_one_eq_mod c.toNat 4
  simp at this; rw [this]; omega
theorem nib_step (c : B) : (c >>> 4) ^^^ nibB.getD (c.toNat % 16) 0 = s4 c := by
  obtain ⟨i, h1, h2⟩ := and15B c
  have hn := nib_all i
  have hs : s4 c = s4 (((c >>> 4) <<< 4) ^^^ (c &&& 15#32)) := congrArg s4 (split4 c)
  rw [hs, s4_xor, s4_shl, h1, hn, h2]
  intro i hi; rw [BitVec.getLsbD_ushiftRight]; exact BitVec.getLsbD_of_ge _ _ (by omega)
/-! ### the register as a number -/
def I (c : B) : Int := (c.toNat : Int)
theorem I_inj {a b : B} (h : I a = I b) : a = b := by unfold I at h; exact BitVec.eq_of_toNat_eq (by omega)
theorem I_range (a : B) : 0 ≤ I a ∧ I a ≤ 4294967295 := by unfold I; have := a.isLt; omega
theorem I_of {x : Int} (h0 : 0 ≤ x) (h1 : x ≤ 4294967295) : x = I (BitVec.ofInt 32 x) := by
  unfold I; rw [BitVec.toNat_ofInt]; omega
theorem I_xor (a b : B) : Go.bits .xor .u32 (I a) (I b) = I (a ^^^ b) := by
  unfold I; rw [u32_xor_nat _ _ a.isLt b.isLt, BitVec.toNat_xor]
theorem nib_eq : ∀ i : Fin 16, nibs.getD i.val 0 = ((nibB.getD i.val 0).toNat : Int) := by decide
theorem half_I (c : B) : half (I c) = I (s4 c) := by
  rw [← nib_step]
  unfold half nibAt I
  have e1 : Go.bits .and .u32 ((c.toNat : Nat) : Int) 15 = ((c.toNat % 16 : Nat) : Int) := by
    rw [show (15 : Int) = ((15 : Nat) : Int) from rfl, u32_and_nat _ _ c.isLt (by decide)]
    congr 1; exact Nat.and_two_pow_sub_one_eq_mod c.toNat 4
  have e2 := nib_eq ⟨c.toNat % 16, by omega⟩
  simp only at e2
  rw [e1, Int.toNat_natCast, show ((c.toNat : Int) / 16) = ((c.toNat / 16 : Nat) : Int) from by omega, e2, u32_xor_nat _ _ (by have := c.isLt; omega) (BitVec.isLt _), BitVec.toNat_xor, BitVec.toNat_ushiftRight, Nat.shiftRight_eq_div_pow]
theorem step_I (c : B) : crc_step.f (I c) = some (I (s8 c)) := by
  unfold crc_step.f; rw [half_I, half_I]; rfl
def s8n : Nat → B → B
  | 0, c => c
  | n + 1, c => s8n n (s8 c)
theorem s8n_add (m : Nat) : ∀ (n : Nat) (c : B), s8n (m + n) c = s8n n (s8n m c) := by
  induction m with
  | zero => intro n c; simp [s8n]
  | succ m ih => intro n c; rw [show m + 1 + n = (m + n) + 1 by omega]; simp only [s8n]; rw [ih]
theorem s8n_xor (m : Nat) : ∀ a b : B, s8n m (a ^^^ b) = s8n m a ^^^ s8n m b := by
  induction m with
  | zero => intro a b; rfl
  | succ m ih => intro a b; simp only [s8n, s8_xor, ih]
theorem s8n_zero (m : Nat) : s8n m 0#32 = 0#32 := by
  induction m with
  | zero => rfl
  | succ m ih => simp only [s8n, s8_zero, ih]
theorem s8n_inj (m : Nat) : ∀ {a b : B}, s8n m a = s8n m b → a = b := by
  induction m with
  | zero => intro a b h; exact h
  | succ m ih => intro a b h; exact s8_inj (ih h)
def upd (c : B) (l : List UInt8) : B := l.foldl (fun c b => s8 (c ^^^ BitVec.ofNat 32 b.toNat)) c
def updAll (c : B) (ps : List ByteArray) : B := ps.foldl (fun c p => upd c p.data.toList) c
def total (ps : List ByteArray) : Nat := (ps.map fun p => p.size).sum
def ones : B := 4294967295#32
theorem drop_at {α : Type} (z : α) (L : List α) (i : Nat) (p : α) (l : List α) (h : L.drop i = p :: l) : L.getD i z = p ∧ i < L.length ∧ L.drop (i + 1) = l := by
  have hi : i < L.length := by
    rcases Nat.lt_or_ge i L.length with h1 | h1
    · exact h1
    · rw [List.drop_eq_nil_of_le h1] at h; cases h
  rw [List.drop_eq_getElem_cons hi] at h
  injection h with h1 h2
  exact ⟨by rw [List.getD_eq_getElem?_getD, List.getElem?_eq_getElem hi, h1]; rfl, hi, h2⟩
theorem drop_end {α : Type} (L : List α) (i : Nat) (hi : i ≤ L.length) (h : L.drop i = []) : i = L.length := by
  have : (L.drop i).length = 0 := by rw [h]; rfl
  rw [List.length_drop] at this; omega
theorem bt_drop (s : ByteArray) (i : Nat) (b : UInt8) (l : List UInt8) (h : s.data.toList.drop i = b :: l) : bt s i = (b.toNat : Int) ∧ i < s.size ∧ s.data.toList.drop (i + 1) = l := by
  obtain ⟨h1, h2, h3⟩ := drop_at 0 _ i b l h
  have hs : i < s.size := by simpa using h2
  refine ⟨?_, hs, h3⟩
  have hb := bt_at s (i : Int)
  have hn : (i : Int).toNat = i := by omega
  rw [← hb (by omega)]
  congr 2
  rw [List.getD_eq_getElem?_getD, List.getElem?_eq_getElem h2] at h1
  simp only [Option.getD_some] at h1
  rw [← h1]
  simp only [Int.toNat_natCast]
  rfl
theorem sum_l1 (s : ByteArray) (hs : s.size ≤ 1000000) (L : List ByteArray) (ln j : Int) (hj : Unit → wrap64 (j + 1) = j + 1) (l : List UInt8) : ∀ (i k : Nat) (c : B), s.data.toList.drop i = l → i ≤ s.size →
    crc_Sum.l1 (k + l.length + 1) (I c) s L ln j (s.size : Int) i = crc_Sum.l0 k (I (upd c l)) L ln (j + 1) := by
  induction l with
  | nil =>
    intro i k c hd hi
    have := drop_end _ i (by simpa using hi) hd
    simp only [List.length_nil, crc_Sum.l1]
    rw [if_neg (by have : i = s.size := by simpa using this
                   omega), hj ()]
    simp only [upd, List.foldl_nil, Nat.add_zero]
  | cons b l ih =>
    intro i k c hd hi
    obtain ⟨h1, h2, h3⟩ := bt_drop s i b l hd
    obtain ⟨kk, hkk⟩ : ∃ kk, kk = k + l.length + 1 := ⟨_, rfl⟩
    rw [List.length_cons, show k + (l.length + 1) + 1 = kk + 1 by omega]
    simp only [crc_Sum.l1]
    have hb := b.toNat_lt
    rw [if_pos (by omega), if_pos (by omega), if_pos (by omega), h1, show ((b.toNat : Int) % 4294967296) = (b.toNat : Int) by omega]
    have hI : (b.toNat : Int) = I (BitVec.ofNat 32 b.toNat) := by unfold I; rw [BitVec.toNat_ofNat]; omega
    rw [hI, I_xor, step_I]
    simp only [Option.bind_some]
    rw [w_succ (by omega)]
    have hu : upd c (b :: l) = upd (s8 (c ^^^ BitVec.ofNat 32 b.toNat)) l := by simp only [upd, List.foldl_cons]
    rw [hu, hkk]
    exact ih (i + 1) k _ h3 (by omega)
theorem rdOf_drop (L : List ByteArray) (j : Nat) (p : ByteArray) (ps : List ByteArray) (h : L.drop j = p :: ps) : rdOf ByteArray.empty L j = p ∧ j < L.length ∧ L.drop (j + 1) = ps := by
  have := drop_at ByteArray.empty L j p ps h
  unfold rdOf
  rw [Int.toNat_natCast]; exact this
theorem sum_l0 (L : List ByteArray) (hL : L.length ≤ 1000000) (ps : List ByteArray) : ∀ (j k : Nat) (c : B), L.drop j = ps → j ≤ L.length → total ps ≤ 1000000 → total ps + 2 * ps.length + 1 ≤ k →
    crc_Sum.l0 k (I c) L (L.length : Int) j = some (I (ones ^^^ updAll c ps)) := by
  induction ps with
  | nil =>
    intro j k c hd hj ht hk
    obtain ⟨k, rfl⟩ : ∃ q, k = q + 1 := ⟨k - 1, by omega⟩
    have := drop_end _ j hj hd
    simp only [crc_Sum.l0]
    rw [if_neg (by omega), show (4294967295 : Int) = I ones from rfl, I_xor]
    rfl
  | cons p ps ih =>
    intro j k c hd hj ht hk
    obtain ⟨h1, h2, h3⟩ := rdOf_drop L j p ps hd
    have ht' : total (p :: ps) = p.size + total ps := by unfold total; simp
    rw [ht'] at ht hk
    rw [List.length_cons] at hk
    have hpl : p.data.toList.length = p.size := by simp
    obtain ⟨kk, rfl⟩ : ∃ q, k = q + 1 := ⟨k - 1, by omega⟩
    obtain ⟨q, hq⟩ : ∃ q, kk = q + p.data.toList.length + 1 := ⟨kk - p.size - 1, by omega⟩
    simp only [crc_Sum.l0]
    rw [if_pos (by omega), if_pos (by omega), if_pos (by omega), h1]
    have := sum_l1 p (by omega) L (L.length : Int) (j : Int) (fun _ => by rw [w_succ (by omega)]; omega) p.data.toList 0 q c (by simp) (by omega)
    rw [show ((0 : Nat) : Int) = 0 from rfl] at this
    rw [hq, this]
    have hr := ih (j + 1) q (upd c p.data.toList) h3 (by omega) (by omega) (by omega)
    rw [show ((j + 1 : Nat) : Int) = (j : Int) + 1 by omega] at hr
    have hu : updAll c (p :: ps) = updAll (upd c p.data.toList) ps := by simp only [updAll, List.foldl_cons]
    rw [hu]
    exact hr
theorem sum_eq (L : List ByteArray) (hL : L.length ≤ 1000000) (ht : total L ≤ 1000000) (k : Nat) (hk : total L + 2 * L.length + 1 ≤ k) : crc_Sum.f k L = some (I (ones ^^^ updAll ones L)) := by
  unfold crc_Sum.f
  exact sum_l0 L hL L 0 k ones (by simp) (by omega) ht hk
theorem turn_l0 (n : Nat) (hn : n ≤ 65536) (m : Nat) : ∀ (k i : Nat) (c : B), n - i = m → i ≤ n → m + 1 ≤ k → crc_Turn.l0 k (I c) n i = some (I (s8n m c)) := by
  induction m with
  | zero =>
    intro k i c hm hi hk
    obtain ⟨k, rfl⟩ : ∃ q, k = q + 1 := ⟨k - 1, by omega⟩
    simp only [crc_Turn.l0]
    rw [if_neg (by omega)]; rfl
  | succ m ih =>
    intro k i c hm hi hk
    obtain ⟨k, rfl⟩ : ∃ q, k = q + 1 := ⟨k - 1, by omega⟩
    simp only [crc_Turn.l0]
    rw [if_pos (by omega), step_I]
    simp only [Option.bind_some]
    rw [w_succ (by omega)]
    exact ih k (i + 1) (s8 c) (by omega) (by omega) (by omega)
theorem turn_eq {n x : Int} (h0 : 0 ≤ n) (h1 : n ≤ 65536) (x0 : 0 ≤ x) (x1 : x ≤ 255) (k : Nat) (hk : 70000 ≤ k) : crc_Turn.f k n x = some (I (s8n (n.toNat + 1) (BitVec.ofInt 32 x))) := by
  obtain ⟨k, rfl⟩ : ∃ q, k = q + 1 := ⟨k - 1, by omega⟩
  obtain ⟨m, rfl⟩ := Int.eq_ofNat_of_zero_le h0
  unfold crc_Turn.f
  rw [if_neg (by omega), decide_eq_false (by omega)]
  simp only [crc_Turn.j0]
  rw [if_neg (by decide), show x % 4294967296 = x by omega, I_of (x := x) (by omega) (by omega), step_I]
  simp only [Option.bind_some]
  have := turn_l0 m (by omega) m k 0 (s8 (BitVec.ofInt 32 x)) (by omega) (by omega) (by omega)
  rw [← I_of (x := x) (by omega) (by omega)]
  exact this
theorem speaks02 (k : Nat) (hk : 40 ≤ k) : corbellaw02_speaks.f k = some true := by
  unfold corbellaw02_speaks.f
  rw [sum_eq _ (by decide) (by decide) k (by refine Nat.le_trans ?_ hk; decide)]
  simp only [Option.bind_some]
  decide +kernel
def bitB (q r : Nat) : B := s8n q (BitVec.ofNat 32 (2 ^ r))
theorem bit_far : ∀ i : Fin 32, bitB (i.val / 8) (i.val % 8) = s8n 3 (BitVec.ofNat 32 (2 ^ (i.val % 8 + 24 - 8 * (i.val / 8)))) := by decide +kernel
theorem bit_pow : ∀ i j : Fin 32, BitVec.ofNat 32 (2 ^ (i.val % 8 + 24 - 8 * (i.val / 8))) = BitVec.ofNat 32 (2 ^ (j.val % 8 + 24 - 8 * (j.val / 8))) → i = j := by decide +kernel
theorem bit_ne : ∀ i : Fin 32, BitVec.ofNat 32 (2 ^ (i.val % 8)) ≠ 0#32 := by decide +kernel
theorem bits_eq {i j : Nat} (hi : i < 32) (hj : j < 32) (h : bitB (i / 8) (i % 8) = bitB (j / 8) (j % 8)) : i = j := by
  have h1 := bit_far ⟨i, hi⟩
  have h2 := bit_far ⟨j, hj⟩
  simp only at h1 h2
  rw [h1, h2] at h
  have := bit_pow ⟨i, hi⟩ ⟨j, hj⟩ (s8n_inj 3 h)
  exact congrArg Fin.val this
theorem shl_bit : ∀ r : Fin 8, shl .u8 1 ((r.val : Nat) : Int) = ((2 ^ r.val : Nat) : Int) := by decide
theorem turn_bit (n i : Nat) (hn : n ≤ 4095) (hi : i < 32) (K : Nat) (hK : 70000 ≤ K) : crc_Turn.f K (wrap64 ((n : Int) + wrap64 (Int.tdiv (i : Int) 8))) (shl .u8 1 (Int.tmod (i : Int) 8)) = some (I (s8n (n + 1) (bitB (i / 8) (i % 8)))) := by
  have hr := shl_bit ⟨i % 8, by omega⟩
  simp only at hr
  rw [tdiv_pos (by omega), tmod_pos (by omega), w64 (n := (i : Int) / 8) (by omega) (by omega), w64 (n := (n : Int) + (i : Int) / 8) (by omega) (by omega), show ((i : Int) % 8) = ((i % 8 : Nat) : Int) by omega, hr]
  have hp : 2 ^ (i % 8) ≤ 2 ^ 7 := Nat.pow_le_pow_right (by decide) (by omega)
  have hp' : (2 : Nat) ^ 7 = 128 := by decide
  unfold bitB
  generalize 2 ^ (i % 8) = z at *
  have hb : BitVec.ofInt 32 ((z : Nat) : Int) = BitVec.ofNat 32 z := BitVec.ofInt_natCast ..
  have := turn_eq (n := (n : Int) + (i : Int) / 8) (x := (z : Int)) (by omega) (by omega) (by omega) (by omega) K hK
  rw [this, hb]
  rw [← s8n_add, show ((n : Int) + (i : Int) / 8).toNat + 1 = i / 8 + (n + 1) by omega]
theorem CrcBits : corbellaw02_CrcBits.Pure := by
  intro n x y hn hx hy
  obtain ⟨K, hK⟩ : ∃ K : Nat, 70000 ≤ K := ⟨_, Nat.le_refl _⟩
  refine ⟨K, ?_⟩
  unfold corbellaw02_CrcBits.f
  rw [speaks02 K (by omega)]
  simp only [Option.bind_some, if_true]
  have hm : Go.bits .and .i64 n 4095 = n % 4096 := and_mask n 12 (by decide)
  have hx1 : Go.bits .and .i64 x 31 = x % 32 := and_mask x 5 (by decide)
  have hy1 : Go.bits .and .i64 y 31 = y % 32 := and_mask y 5 (by decide)
  rw [hm, hx1, hy1]
  obtain ⟨b, hb⟩ := Int.eq_ofNat_of_zero_le (show 0 ≤ n % 4096 by omega)
  obtain ⟨i, hi⟩ := Int.eq_ofNat_of_zero_le (show 0 ≤ x % 32 by omega)
  obtain ⟨j, hj⟩ := Int.eq_ofNat_of_zero_le (show 0 ≤ y % 32 by omega)
  have hb1 : b ≤ 4095 := by omega
  have hi1 : i < 32 := by omega
  have hj1 : j < 32 := by omega
  rw [hb, hi, hj, turn_bit b i hb1 hi1 K hK, turn_bit b j hb1 hj1 K hK, if_pos (by rw [tmod_pos (by omega)]; omega)]
  simp only [Option.bind_some]
  rw [if_pos (by rw [tmod_pos (by omega)]; omega)]
  rw [if_neg]
  · congr 1
    rw [beq_iff_eq, Bool.eq_iff_iff, beq_iff_eq, beq_iff_eq]
    constructor
    · intro h
      have := bits_eq hi1 hj1 (s8n_inj _ (I_inj h))
      rw [this]
    · intro h
      rw [show i = j by omega]
  · intro h
    have h2 : s8n (b + 1) (bitB (i / 8) (i % 8)) = s8n (b + 1) 0#32 := by rw [s8n_zero]; exact I_inj h
    have h3 := s8n_inj _ h2
    unfold bitB at h3
    have h4 : s8n (i / 8) (BitVec.ofNat 32 (2 ^ (i % 8))) = s8n (i / 8) 0#32 := by rw [s8n_zero]; exact h3
    exact bit_ne ⟨i, hi1⟩ (s8n_inj _ h4)
end Go.Proofs.YtncdfikcdchimaaDoor.Pure
