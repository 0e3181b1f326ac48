/- CrcSums: the pure statement, over numbers and lists alone; no conditions. -/
import Derived.Test.YtncdfikcdchimaaDoorPCrcSumsx1
set_option linter.unusedVariables false
set_option linter.unusedSimpArgs false
namespace Go.Proofs.YtncdfikcdchimaaDoor.Pure
open Go.RowKit Go.Proofs.YtncdfikcdchimaaDoor.PCrcSums Go.Proofs.YtncdfikcdchimaaDoorW.PrintWords Go.Proofs.YtncdfikcdchimaaDoorW.PrintLast Go.Proofs.YtncdfikcdchimaaDoorW.PrintMore
/-! ### whole numbers -/
theorem wf_i64 {n : Int} (h : (Lit.int .i64 n).wf = true) : -9223372036854775808 ≤ n ∧ n ≤ 9223372036854775807 := by
  simpa [Lit.wf, IntKind.min, IntKind.max, IntKind.signed, IntKind.bits] using h
theorem w64 {n : Int} (h0 : -9223372036854775808 ≤ n) (h1 : n ≤ 9223372036854775807) : wrap64 n = n := by unfold wrap64; omega
theorem w_succ {i : Nat} (h : i ≤ 1000000000000) : wrap64 ((i : Int) + 1) = ((i + 1 : Nat) : Int) := by rw [w64 (by omega) (by omega)]; omega
theorem tdiv_pos {a b : Int} (ha : 0 ≤ a) : Int.tdiv a b = a / b := Int.tdiv_eq_ediv_of_nonneg ha
theorem tmod_pos {a b : Int} (ha : 0 ≤ a) : Int.tmod a b = a % b := Int.tmod_eq_emod_of_nonneg ha
theorem div_step {n c : Int} (hc : 0 < c) (h0 : 0 ≤ n) : (n % c + 1 < c ∧ (n + 1) / c = n / c ∧ (n + 1) % c = n % c + 1) ∨ (n % c + 1 = c ∧ (n + 1) / c = n / c + 1 ∧ (n + 1) % c = 0) := by
  have h1 := Int.emod_add_mul_ediv n c
  have h2 := Int.emod_nonneg n (show c ≠ 0 by omega)
  have h3 := Int.emod_lt_of_pos n hc
  rcases Int.lt_or_le (n % c + 1) c with hlt | hge
  · refine .inl ⟨hlt, ?_, ?_⟩
    · have e : n + 1 = (n % c + 1) + (n / c) * c := by rw [Int.mul_comm (n / c)]; omega
      rw [e, Int.add_mul_ediv_right _ _ (by omega), Int.ediv_eq_zero_of_lt (by omega) hlt]; omega
    · have e : n + 1 = (n % c + 1) + c * (n / c) := by omega
      conv => lhs; rw [e]
      rw [Int.add_mul_emod_self_left]; exact Int.emod_eq_of_lt (by omega) hlt
  · refine .inr ⟨by omega, ?_, ?_⟩
    · have e : n + 1 = 0 + (n / c + 1) * c := by rw [Int.add_mul, Int.one_mul, Int.mul_comm (n / c)]; omega
      rw [e, Int.add_mul_ediv_right _ _ (by omega)]; simp
    · have e : n + 1 = 0 + c * (n / c + 1) := by rw [Int.mul_add, Int.mul_one]; omega
      rw [e, Int.add_mul_emod_self_left]; simp
theorem and_mask (x : Int) (i : Nat) (hi : i ≤ 62) : Go.bits .and .i64 x (2 ^ i - 1) = x % 2 ^ i := by
  have h2 : (2 : Nat) ^ i ≤ 2 ^ 62 := Nat.pow_le_pow_right (by decide) hi
  have h62 : (2 : Nat) ^ 62 = 4611686018427387904 := by decide
  have h64 : (2 : Nat) ^ 64 = 18446744073709551616 := by decide
  have hp : 0 < 2 ^ i := Nat.two_pow_pos i
  have hc : ((2 : Int) ^ i - 1) = ((2 ^ i - 1 : Nat) : Int) := by rw [Int.natCast_sub hp]; simp
  have hd : (2 ^ i : Nat) ∣ 2 ^ 64 := Nat.pow_dvd_pow 2 (by omega)
  have hb : IntKind.i64.bits = 64 := rfl
  have key : ((BitVec.ofInt 64 x &&& BitVec.ofInt 64 (2 ^ i - 1)).toNat : Int) = x % 2 ^ i := by
    rw [hc, BitVec.ofInt_natCast, BitVec.toNat_and, BitVec.toNat_ofNat, Nat.mod_eq_of_lt (show 2 ^ i - 1 < 2 ^ 64 by omega), Nat.and_two_pow_sub_one_eq_mod, BitVec.toNat_ofInt,
      Int.natCast_emod, Int.toNat_of_nonneg (Int.emod_nonneg _ (by decide)), Int.emod_emod_of_dvd]
    · simp
    · exact Int.natCast_dvd_natCast.2 hd
  have hlt : ((BitVec.ofInt 64 x &&& BitVec.ofInt 64 (2 ^ i - 1)).toNat : Int) < 4611686018427387904 := by
    rw [key]
    have : x % ((2 ^ i : Nat) : Int) < ((2 ^ i : Nat) : Int) := Int.emod_lt_of_pos _ (by omega)
    have e : ((2 ^ i : Nat) : Int) = (2 : Int) ^ i := by simp
    rw [e] at this
    have : (2 : Int) ^ i ≤ 4611686018427387904 := by rw [← e]; omega
    omega
  show IntKind.i64.wrap ((BitVec.ofInt 64 x &&& BitVec.ofInt 64 (2 ^ i - 1)).toNat : Int) = x % 2 ^ i
  rw [IntKind.wrap_i64]
  omega
abbrev B := BitVec 32
def poly : B := 0x82f63b78#32
def s1 (c : B) : B := (c >>> 1) ^^^ (if c.getLsbD 0 then poly else 0#32)
theorem s1_xor (a b : B) : s1 (a ^^^ b) = s1 a ^^^ s1 b := by
  unfold s1
  rw [BitVec.ushiftRight_xor_distrib, BitVec.getLsbD_xor]
  cases a.getLsbD 0 <;> cases b.getLsbD 0 <;> simp
  · rw [BitVec.xor_assoc]
  · rw [BitVec.xor_assoc, BitVec.xor_assoc, BitVec.xor_comm poly]
  · rw [BitVec.xor_assoc (a >>> 1), BitVec.xor_comm poly, BitVec.xor_assoc (b >>> 1), BitVec.xor_self]; simp
theorem s1_zero : s1 0#32 = 0#32 := by decide
theorem s1_eq_zero {x : B} (h : s1 x = 0#32) : x = 0#32 := by
  unfold s1 at h
  cases hb : x.getLsbD 0 with
  | true =>
    exfalso
    rw [hb] at h
    have h31 := congrArg (fun z : B => z.getLsbD 31) h
    simp [poly] at h31
  | false =>
    rw [hb] at h
    simp at h
    apply BitVec.eq_of_getLsbD_eq
    intro i hi
    simp
    cases i with
    | zero => exact hb
    | succ i =>
      have := congrArg (fun z : B => z.getLsbD i) h
      simpa [Nat.add_comm] using this
theorem s1_inj {a b : B} (h : s1 a = s1 b) : a = b := by
  have : s1 (a ^^^ b) = 0#32 := by rw [s1_xor, h, BitVec.xor_self]
  have := s1_eq_zero this
  exact BitVec.xor_eq_zero_iff.1 this
def s8 (c : B) : B := s1 (s1 (s1 (s1 (s1 (s1 (s1 (s1 c)))))))
theorem s8_xor (a b : B) : s8 (a ^^^ b) = s8 a ^^^ s8 b := by simp only [s8, s1_xor]
theorem s8_zero : s8 0#32 = 0#32 := by decide
theorem s8_inj {a b : B} (h : s8 a = s8 b) : a = b := by unfold s8 at h; exact s1_inj (s1_inj (s1_inj (s1_inj (s1_inj (s1_inj (s1_inj (s1_inj h)))))))
theorem s8_ne {a : B} (h : a ≠ 0#32) : s8 a ≠ 0#32 := fun e => h (s8_inj (e.trans s8_zero.symm))
def s4 (c : B) : B := s1 (s1 (s1 (s1 c)))
theorem s4_xor (a b : B) : s4 (a ^^^ b) = s4 a ^^^ s4 b := by simp only [s4, s1_xor]
def nibB : List B := [0x00000000, 0x105ec76f, 0x20bd8ede, 0x30e349b1, 0x417b1dbc, 0x5125dad3, 0x61c69362, 0x7198540d, 0x82f63b78, 0x92a8fc17, 0xa24bb5a6, 0xb21572c9, 0xc38d26c4, 0xd3d3e1ab, 0xe330a81a, 0xf36e6f75]
theorem nib_all : ∀ i : Fin 16, s4 (BitVec.ofNat 32 i.val) = nibB.getD i.val 0 := by decide
theorem s1_shl (x : B) (h : x.getLsbD 31 = false) : s1 (x <<< 1) = x := by
  unfold s1
  apply BitVec.eq_of_getLsbD_eq
  intro i hi
  by_cases hi' : i = 31
  · subst hi'; rw [h]; simp
  · have : i < 31 := by omega
    simp [Nat.add_comm]; omega
theorem s4_shl (x : B) (h : ∀ i, 28 ≤ i → x.getLsbD i = false) : s4 (x <<< 4) = x := by
  have e : x <<< 4 = (((x <<< 1) <<< 1) <<< 1) <<< 1 := by simp only [← BitVec.shiftLeft_add]
  have h31 : x[31] = false := h 31 (by omega)
  have h30 : x[30] = false := h 30 (by omega)
  have h29 : x[29] = false := h 29 (by omega)
  have h28 : x[28] = false := h 28 (by omega)
  rw [e]; unfold s4
  rw [s1_shl, s1_shl, s1_shl, s1_shl] <;> simp [h31, h30, h29, h28]
theorem split4 (c : B) : c = ((c >>> 4) <<< 4) ^^^ (c &&& 15#32) := by
  apply BitVec.eq_of_getLsbD_eq
  intro i hi
  have e15 : (15#32 : B) = BitVec.ofNat 32 (2^4 - 1) := rfl
  have hh : (15#32 : B).getLsbD i = decide (i < 4) := by
    rw [e15, BitVec.getLsbD_ofNat, Nat.testBit_two_pow_sub_one]; simp; omega
  rw [BitVec.getLsbD_xor, BitVec.getLsbD_and, hh]
  by_cases h4 : i < 4
  · simp [h4]
  · simp [h4, hi, show 4 + (i - 4) = i by omega]
theorem and15B (c : B) : ∃ i : Fin 16, c &&& 15#32 = BitVec.ofNat 32 i.val ∧ i.val = c.toNat % 16 := by
  refine ⟨⟨c.toNat % 16, by omega⟩, ?_, rfl⟩
  apply BitVec.eq_of_toNat_eq
  simp
  have := Nat.and_two_pow_sub_one_eq_mod c.toNat 4
  simp at this; rw [this]; omega
theorem nib_step (c : B) : (c >>> 4) ^^^ nibB.getD (c.toNat % 16) 0 = s4 c := by
  obtain ⟨i, h1, h2⟩ := and15B c
  have hn := nib_all i
  have hs : s4 c = s4 (((c >>> 4) <<< 4) ^^^ (c &&& 15#32)) := congrArg s4 (split4 c)
  rw [hs, s4_xor, s4_shl, h1, hn, h2]
  intro i hi; rw [BitVec.getLsbD_ushiftRight]; exact BitVec.getLsbD_of_ge _ _ (by omega)
/-! ### the register as a number -/
def I (c : B) : Int := (c.toNat : Int)
theorem I_inj {a b : B} (h : I a = I b) : a = b := by unfold I at h; exact BitVec.eq_of_toNat_eq (by omega)
theorem I_range (a : B) : 0 ≤ I a ∧ I a ≤ 4294967295 := by unfold I; have := a.isLt; omega
theorem I_of {x : Int} (h0 : 0 ≤ x) (h1 : x ≤ 4294967295) : x = I (BitVec.ofInt 32 x) := by
  unfold I; rw [BitVec.toNat_ofInt]; omega
theorem I_xor (a b : B) : Go.bits .xor .u32 (I a) (I b) = I (a ^^^ b) := by
  unfold I; rw [u32_xor_nat _ _ a.isLt b.isLt, BitVec.toNat_xor]
theorem nib_eq : ∀ i : Fin 16, nibs.getD i.val 0 = ((nibB.getD i.val 0).toNat : Int) := by decide
theorem half_I (c : B) : half (I c) = I (s4 c) := by
  rw [← nib_step]
  unfold half nibAt I
  have e1 : Go.bits .and .u32 ((c.toNat : Nat) : Int) 15 = ((c.toNat % 16 : Nat) : Int) := by
    rw [show (15 : Int) = ((15 : Nat) : Int) from rfl, u32_and_nat _ _ c.isLt (by decide)]
    congr 1; exact Nat.and_two_pow_sub_one_eq_mod c.toNat 4
  have e2 := nib_eq ⟨c.toNat % 16, by omega⟩
  simp only at e2
  rw [e1, Int.toNat_natCast, show ((c.toNat : Int) / 16) = ((c.toNat / 16 : Nat) : Int) from by omega, e2, u32_xor_nat _ _ (by have := c.isLt; omega) (BitVec.isLt _), BitVec.toNat_xor, BitVec.toNat_ushiftRight, Nat.shiftRight_eq_div_pow]
theorem step_I (c : B) : crc_step.f (I c) = some (I (s8 c)) := by
  unfold crc_step.f; rw [half_I, half_I]; rfl
def s8n : Nat → B → B
  | 0, c => c
  | n + 1, c => s8n n (s8 c)
theorem s8n_add (m : Nat) : ∀ (n : Nat) (c : B), s8n (m + n) c = s8n n (s8n m c) := by
  induction m with
  | zero => intro n c; simp [s8n]
  | succ m ih => intro n c; rw [show m + 1 + n = (m + n) + 1 by omega]; simp only [s8n]; rw [ih]
theorem s8n_xor (m : Nat) : ∀ a b : B, s8n m (a ^^^ b) = s8n m a ^^^ s8n m b := by
  induction m with
  | zero => intro a b; rfl
  | succ m ih => intro a b; simp only [s8n, s8_xor, ih]
theorem s8n_zero (m : Nat) : s8n m 0#32 = 0#32 := by
  induction m with
  | zero => rfl
  | succ m ih => simp only [s8n, s8_zero, ih]
theorem s8n_inj (m : Nat) : ∀ {a b : B}, s8n m a = s8n m b → a = b := by
  induction m with
  | zero => intro a b h; exact h
  | succ m ih => intro a b h; exact s8_inj (ih h)
def upd (c : B) (l : List UInt8) : B := l.foldl (fun c b => s8 (c ^^^ BitVec.ofNat 32 b.toNat)) c
def updAll (c : B) (ps : List ByteArray) : B := ps.foldl (fun c p => upd c p.data.toList) c
def total (ps : List ByteArray) : Nat := (ps.map fun p => p.size).sum
def ones : B := 4294967295#32
theorem drop_at {α : Type} (z : α) (L : List α) (i : Nat) (p : α) (l : List α) (h : L.drop i = p :: l) : L.getD i z = p ∧ i < L.length ∧ L.drop (i + 1) = l := by
  have hi : i < L.length := by
    rcases Nat.lt_or_ge i L.length with h1 | h1
    · exact h1
    · rw [List.drop_eq_nil_of_le h1] at h; cases h
  rw [List.drop_eq_getElem_cons hi] at h
  injection h with h1 h2
  exact ⟨by rw [List.getD_eq_getElem?_getD, List.getElem?_eq_getElem hi, h1]; rfl, hi, h2⟩
theorem drop_end {α : Type} (L : List α) (i : Nat) (hi : i ≤ L.length) (h : L.drop i = []) : i = L.length := by
  have : (L.drop i).length = 0 := by rw [h]; rfl
  rw [List.length_drop] at this; omega
theorem bt_drop (s : ByteArray) (i : Nat) (b : UInt8) (l : List UInt8) (h : s.data.toList.drop i = b :: l) : bt s i = (b.toNat : Int) ∧ i < s.size ∧ s.data.toList.drop (i + 1) = l := by
  obtain ⟨h1, h2, h3⟩ := drop_at 0 _ i b l h
  have hs : i < s.size := by simpa using h2
  refine ⟨?_, hs, h3⟩
  have hb := bt_at s (i : Int)
  have hn : (i : Int).toNat = i := by omega
  rw [← hb (by omega)]
  congr 2
  rw [List.getD_eq_getElem?_getD, List.getElem?_eq_getElem h2] at h1
  simp only [Option.getD_some] at h1
  rw [← h1]
  simp only [Int.toNat_natCast]
  rfl
theorem sum_l1 (s : ByteArray) (hs : s.size ≤ 1000000) (L : List ByteArray) (ln j : Int) (hj : Unit → wrap64 (j + 1) = j + 1) (l : List UInt8) : ∀ (i k : Nat) (c : B), s.data.toList.drop i = l → i ≤ s.size →
    crc_Sum.l1 (k + l.length + 1) (I c) s L ln j (s.size : Int) i = crc_Sum.l0 k (I (upd c l)) L ln (j + 1) := by
  induction l with
  | nil =>
    intro i k c hd hi
    have := drop_end _ i (by simpa using hi) hd
    simp only [List.length_nil, crc_Sum.l1]
    rw [if_neg (by have : i = s.size := by simpa using this
                   omega), hj ()]
    simp only [upd, List.foldl_nil, Nat.add_zero]
  | cons b l ih =>
    intro i k c hd hi
    obtain ⟨h1, h2, h3⟩ := bt_drop s i b l hd
    obtain ⟨kk, hkk⟩ : ∃ kk, kk = k + l.length + 1 := ⟨_, rfl⟩
    rw [List.length_cons, show k + (l.length + 1) + 1 = kk + 1 by omega]
    simp only [crc_Sum.l1]
    have hb := b.toNat_lt
    rw [if_pos (by omega), if_pos (by omega), if_pos (by omega), h1, show ((b.toNat : Int) % 4294967296) = (b.toNat : Int) by omega]
    have hI : (b.toNat : Int) = I (BitVec.ofNat 32 b.toNat) := by unfold I; rw [BitVec.toNat_ofNat]; omega
    rw [hI, I_xor, step_I]
    simp only [Option.bind_some]
    rw [w_succ (by omega)]
    have hu : upd c (b :: l) = upd (s8 (c ^^^ BitVec.ofNat 32 b.toNat)) l := by simp only [upd, List.foldl_cons]
    rw [hu, hkk]
    exact ih (i + 1) k _ h3 (by omega)
theorem rdOf_drop (L : List ByteArray) (j : Nat) (p : ByteArray) (ps : List ByteArray) (h : L.drop j = p :: ps) : rdOf ByteArray.empty L j = p ∧ j < L.length ∧ L.drop (j + 1) = ps := by
  have := drop_at ByteArray.empty L j p ps h
  unfold rdOf
  rw [Int.toNat_natCast]; exact this
theorem sum_l0 (L : List ByteArray) (hL : L.length ≤ 1000000) (ps : List ByteArray) : ∀ (j k : Nat) (c : B), L.drop j = ps → j ≤ L.length → total ps ≤ 1000000 → total ps + 2 * ps.length + 1 ≤ k →
    crc_Sum.l0 k (I c) L (L.length : Int) j = some (I (ones ^^^ updAll c ps)) := by
  induction ps with
  | nil =>
    intro j k c hd hj ht hk
    obtain ⟨k, rfl⟩ : ∃ q, k = q + 1 := ⟨k - 1, by omega⟩
    have := drop_end _ j hj hd
    simp only [crc_Sum.l0]
    rw [if_neg (by omega), show (4294967295 : Int) = I ones from rfl, I_xor]
    rfl
  | cons p ps ih =>
    intro j k c hd hj ht hk
    obtain ⟨h1, h2, h3⟩ := rdOf_drop L j p ps hd
    have ht' : total (p :: ps) = p.size + total ps := by unfold total; simp
    rw [ht'] at ht hk
    rw [List.length_cons] at hk
    have hpl : p.data.toList.length = p.size := by simp
    obtain ⟨kk, rfl⟩ : ∃ q, k = q + 1 := ⟨k - 1, by omega⟩
    obtain ⟨q, hq⟩ : ∃ q, kk = q + p.data.toList.length + 1 := ⟨kk - p.size - 1, by omega⟩
    simp only [crc_Sum.l0]
    rw [if_pos (by omega), if_pos (by omega), if_pos (by omega), h1]
    have := sum_l1 p (by omega) L (L.length : Int) (j : Int) (fun _ => by rw [w_succ (by omega)]; omega) p.data.toList 0 q c (by simp) (by omega)
    rw [show ((0 : Nat) : Int) = 0 from rfl] at this
    rw [hq, this]
    have hr := ih (j + 1) q (upd c p.data.toList) h3 (by omega) (by omega) (by omega)
    rw [show ((j + 1 : Nat) : Int) = (j : Int) + 1 by omega] at hr
    have hu : updAll c (p :: ps) = updAll (upd c p.data.toList) ps := by simp only [updAll, List.foldl_cons]
    rw [hu]
    exact hr
theorem sum_eq (L : List ByteArray) (hL : L.length ≤ 1000000) (ht : total L ≤ 1000000) (k : Nat) (hk : total L + 2 * L.length + 1 ≤ k) : crc_Sum.f k L = some (I (ones ^^^ updAll ones L)) := by
  unfold crc_Sum.f
  exact sum_l0 L hL L 0 k ones (by simp) (by omega) ht hk
theorem speaks02 (k : Nat) (hk : 40 ≤ k) : corbellaw02_speaks.f k = some true := by
  unfold corbellaw02_speaks.f
  rw [sum_eq _ (by decide) (by decide) k (by refine Nat.le_trans ?_ hk; decide)]
  simp only [Option.bind_some]
  decide +kernel
/-! ### the document's sum: bit by bit -/
theorem getLsb0 (c : B) : c.getLsbD 0 = decide (c.toNat % 2 = 1) := by
  rw [BitVec.getLsbD, Nat.testBit_zero]
def s1n : Nat → B → B
  | 0, c => c
  | n + 1, c => s1n n (s1 c)
def refStep (y c : B) : B := if y.toNat % 2 = c.toNat % 2 then c >>> 1 else (c >>> 1) ^^^ poly
theorem refStep_s1 (y c : B) : s1 (c ^^^ y) = refStep y c ^^^ (y >>> 1) := by
  unfold s1 refStep
  rw [BitVec.ushiftRight_xor_distrib, BitVec.getLsbD_xor, getLsb0, getLsb0]
  by_cases h : y.toNat % 2 = c.toNat % 2
  · rw [if_pos h, h]; simp
  · rw [if_neg h]
    have hx : (decide (c.toNat % 2 = 1) ^^ decide (y.toNat % 2 = 1)) = true := by
      rcases Nat.mod_two_eq_zero_or_one c.toNat with e | e <;> rcases Nat.mod_two_eq_zero_or_one y.toNat with f | f <;> rw [e, f] at h ⊢ <;> first | exact absurd rfl h | decide
    rw [hx, if_pos rfl, BitVec.xor_assoc, BitVec.xor_comm (y >>> 1), ← BitVec.xor_assoc]
theorem I_half (c : B) : (Int.tdiv (I c) 2 : Int) % (4294967296 : Int) = I (c >>> 1) := by
  have := I_range c
  rw [tdiv_pos this.1]
  unfold I at *; rw [BitVec.toNat_ushiftRight, Nat.shiftRight_eq_div_pow]; omega
theorem wrap_u64 {t : Nat} (h : t ≤ 64) : IntKind.u64.wrap (t : Int) = (t : Int) := by
  unfold IntKind.wrap; simp [IntKind.signed, IntKind.bits]; omega
theorem shr_eq (b t : Nat) (ht : t ≤ 32) : shr .u32 (b : Int) (t : Int) = ((b / 2 ^ t : Nat) : Int) := by
  unfold shr
  rw [Int.toNat_natCast, show min t IntKind.u32.bits = t by simp [IntKind.bits]; omega]
  simp
theorem ref_l1 (s : ByteArray) (b p : Nat) (hp : p < s.size) (hs : s.size ≤ 1000000) (hb : b < 256) (hbt : bt s p = (b : Int)) (m : Nat) : ∀ (t k : Nat) (c : B), t + m = 8 →
    corbelref02_Sum.l1 (k + m + 1) s (I c) p t = corbelref02_Sum.l0 k s (I (s1n m (c ^^^ (BitVec.ofNat 32 b >>> t)))) ((p + 1 : Nat) : Int) := by
  induction m with
  | zero =>
    intro t k c ht
    obtain rfl : t = 8 := by omega
    have hz : BitVec.ofNat 32 b >>> 8 = 0#32 := by
      apply BitVec.eq_of_toNat_eq
      rw [BitVec.toNat_ushiftRight, BitVec.toNat_ofNat, Nat.shiftRight_eq_div_pow]; simp; omega
    rw [hz, BitVec.xor_zero]
    simp only [Nat.add_zero, corbelref02_Sum.l1]
    rw [if_neg (by omega), w_succ (by omega)]
    rfl
  | succ m ih =>
    intro t k c ht
    obtain ⟨kk, hkk⟩ : ∃ kk, kk = k + m + 1 := ⟨_, rfl⟩
    rw [show k + (m + 1) + 1 = kk + 1 by omega]
    simp only [corbelref02_Sum.l1]
    rw [if_pos (by omega), if_pos (by omega), if_pos (by omega), wrap_u64 (by omega), if_pos (by omega), hbt, show ((b : Int) % 4294967296) = (b : Int) by omega, shr_eq b t (by omega), I_half, w_succ (by omega), show (2197175160 : Int) = I poly from rfl, I_xor]
    have hy : (BitVec.ofNat 32 b >>> t).toNat = b / 2 ^ t := by
      rw [BitVec.toNat_ushiftRight, BitVec.toNat_ofNat, Nat.shiftRight_eq_div_pow, Nat.mod_eq_of_lt (by omega)]
    have hst : s1n (m + 1) (c ^^^ (BitVec.ofNat 32 b >>> t)) = s1n m (refStep (BitVec.ofNat 32 b >>> t) c ^^^ (BitVec.ofNat 32 b >>> (t + 1))) := by
      simp only [s1n]
      rw [refStep_s1, BitVec.shiftRight_add]
    have hr := ih (t + 1) k (refStep (BitVec.ofNat 32 b >>> t) c) (by omega)
    rw [← hkk, ← hst] at hr
    rw [← hr, refStep, hy]
    generalize b / 2 ^ t = z
    rw [tmod_pos (by omega), tmod_pos (I_range c).1]
    have hI : (I c) % 2 = ((c.toNat % 2 : Nat) : Int) := by unfold I; omega
    rw [hI]
    by_cases h : z % 2 = c.toNat % 2
    · rw [if_pos (by omega), if_pos h]
    · rw [if_neg (by omega), if_neg h]
theorem ref_l0 (s : ByteArray) (hs : s.size ≤ 1000000) (l : List UInt8) : ∀ (i k : Nat) (c : B), s.data.toList.drop i = l → i ≤ s.size → 10 * l.length + 1 ≤ k →
    corbelref02_Sum.l0 k s (I c) i = some (I (ones ^^^ upd c l)) := by
  induction l with
  | nil =>
    intro i k c hd hi hk
    obtain ⟨k, rfl⟩ : ∃ q, k = q + 1 := ⟨k - 1, by omega⟩
    have he := drop_end _ i (by simpa using hi) hd
    have he' : i = s.size := by simpa using he
    have hn : (4294967295 - I c) % 4294967296 = I (ones ^^^ c) := by
      have : ones ^^^ c = ~~~c := by rw [BitVec.not_def]; rfl
      rw [this]
      unfold I
      rw [BitVec.toNat_not]
      have := c.isLt
      omega
    simp only [corbelref02_Sum.l0]
    rw [if_neg (by omega), hn]
    rfl
  | cons b l ih =>
    intro i k c hd hi hk
    rw [List.length_cons] at hk
    obtain ⟨h1, h2, h3⟩ := bt_drop s i b l hd
    obtain ⟨kk, rfl⟩ : ∃ q, k = q + 1 := ⟨k - 1, by omega⟩
    obtain ⟨q, hq⟩ : ∃ q, kk = q + 8 + 1 := ⟨kk - 9, by omega⟩
    simp only [corbelref02_Sum.l0]
    have := ref_l1 s b.toNat i h2 hs b.toNat_lt h1 8 0 q c (by omega)
    rw [show ((0 : Nat) : Int) = 0 from rfl] at this
    rw [if_pos (by omega), hq, this]
    have h0 : BitVec.ofNat 32 b.toNat >>> 0 = BitVec.ofNat 32 b.toNat := BitVec.ushiftRight_zero _
    rw [h0]
    have hu : upd c (b :: l) = upd (s8 (c ^^^ BitVec.ofNat 32 b.toNat)) l := by simp only [upd, List.foldl_cons]
    rw [hu, show s1n 8 (c ^^^ BitVec.ofNat 32 b.toNat) = s8 (c ^^^ BitVec.ofNat 32 b.toNat) from rfl]
    exact ih (i + 1) q _ h3 (by omega) (by omega)
theorem ref_eq (s : ByteArray) (hs : s.size ≤ 1000000) (k : Nat) (hk : 10 * s.size + 1 ≤ k) : corbelref02_Sum.f k s = some (I (ones ^^^ upd ones s.data.toList)) := by
  unfold corbelref02_Sum.f
  exact ref_l0 s hs s.data.toList 0 k ones (by simp) (by omega) (by simpa using hk)
def bytesOf (ps : List ByteArray) : List UInt8 := ps.flatMap fun p => p.data.toList
theorem upd_append (c : B) (a b : List UInt8) : upd c (a ++ b) = upd (upd c a) b := by unfold upd; exact List.foldl_append
theorem updAll_bytes (ps : List ByteArray) : ∀ c : B, updAll c ps = upd c (bytesOf ps) := by
  induction ps with
  | nil => intro c; rfl
  | cons p ps ih =>
    intro c
    have h1 : updAll c (p :: ps) = updAll (upd c p.data.toList) ps := by simp only [updAll, List.foldl_cons]
    have h2 : bytesOf (p :: ps) = p.data.toList ++ bytesOf ps := by simp only [bytesOf, List.flatMap_cons]
    rw [h1, h2, upd_append, ih]
theorem bytes_total (ps : List ByteArray) : (bytesOf ps).length = total ps := by
  induction ps with
  | nil => rfl
  | cons p ps ih =>
    have h2 : bytesOf (p :: ps) = p.data.toList ++ bytesOf ps := by simp only [bytesOf, List.flatMap_cons]
    rw [h2, List.length_append, ih]
    unfold total
    simp
theorem extract_list (s : ByteArray) (a b : Nat) : (s.extract a b).data.toList = (s.data.toList.drop a).take (b - a) := by
  rw [ByteArray.data_extract, Array.toList_extract, List.extract_eq_take_drop]
theorem sums_end (s : ByteArray) (hs : s.size ≤ 5000) (ps : List ByteArray) (hb : bytesOf ps = s.data.toList) (hp : ps.length ≤ 100) (K : Nat) (hK : 100000 ≤ K) :
    ((corbelref02_Sum.f K s).bind fun t115 => ((crc_Sum.f K (([s] : List ByteArray))).bind fun t119 => (if t119 = t115 then ((crc_Sum.f K ps).bind fun t120 => (some (t120 == t115))) else (some false)))) = some true := by
  have hl : total ps = s.size := by rw [← bytes_total, hb]; simp
  have h1 : total [s] = s.size := by unfold total; simp
  rw [ref_eq s (by omega) K (by omega), sum_eq [s] (by simp) (by omega) K (by rw [h1]; simp; omega), sum_eq ps (by omega) (by omega) K (by omega)]
  simp only [Option.bind_some]
  rw [updAll_bytes, updAll_bytes, hb, show bytesOf [s] = s.data.toList by simp [bytesOf], if_pos rfl]
  simp
theorem sums_l0 (s : ByteArray) (hs : s.size ≤ 5000) (cuts : List Int) (hc : cuts.length ≤ 17592186044416) (m : Nat) : ∀ (k i : Nat) (parts : List ByteArray) (rest : ByteArray), 50 - i = m → i ≤ 50 → parts.length = i →
    bytesOf (parts ++ [rest]) = s.data.toList → 100000 + m + 1 ≤ k → corbellaw02_CrcSums.l0 k s cuts parts rest i = some true := by
  induction m with
  | zero =>
    intro k i parts rest hm hi hpl hb hk
    obtain ⟨K, rfl⟩ : ∃ q, k = q + 1 := ⟨k - 1, by omega⟩
    have he := sums_end s hs (parts ++ [rest]) hb (by simp; omega) K (by omega)
    simp only [corbellaw02_CrcSums.l0]
    by_cases h1 : (i : Int) < (cuts.length : Int)
    · rw [if_pos h1, if_neg (by omega), if_pos (by omega)]; exact he
    · rw [if_neg h1, if_pos (by omega)]; exact he
  | succ m ih =>
    intro k i parts rest hm hi hpl hb hk
    obtain ⟨K, rfl⟩ : ∃ q, k = q + 1 := ⟨k - 1, by omega⟩
    have he := sums_end s hs (parts ++ [rest]) hb (by simp; omega) K (by omega)
    simp only [corbellaw02_CrcSums.l0]
    by_cases h1 : (i : Int) < (cuts.length : Int)
    · have hx : Go.bits .and .i64 (rd cuts i) 31 = rd cuts i % 32 := and_mask (rd cuts i) 5 (by decide)
      rw [hx]
      have hmn : mn (rd cuts i % 32) (rest.size : Int) = ((min (rd cuts i % 32).toNat rest.size : Nat) : Int) := by unfold mn; split <;> omega
      rw [hmn]
      generalize (rd cuts i % 32).toNat = q
      rw [if_pos h1, if_pos (by omega), if_pos (by omega), if_pos (by omega), if_pos (by omega), if_pos (by omega), Int.toNat_natCast, w_succ (by omega)]
      refine ih K (i + 1) _ _ (by omega) (by omega) (by simp; omega) ?_ (by omega)
      rw [← hb]
      unfold bytesOf
      simp only [List.flatMap_append, List.flatMap_cons, List.flatMap_nil, List.append_nil, List.append_assoc]
      congr 1
      rw [extract_list, extract_list]
      have hrs : rest.size = rest.data.toList.length := by simp
      rw [List.drop_zero, Nat.sub_zero, List.take_of_length_le (l := List.drop _ _) (by rw [List.length_drop]; omega), List.take_append_drop]
    · rw [if_neg h1, if_pos (by omega)]; exact he
theorem CrcSums : corbellaw02_CrcSums.Pure := by
  intro s cuts hs hm hc hw
  obtain ⟨K, hK⟩ : ∃ K : Nat, 200000 ≤ K := ⟨_, Nat.le_refl _⟩
  refine ⟨K, ?_⟩
  unfold corbellaw02_CrcSums.f
  rw [speaks02 K (by omega)]
  simp only [Option.bind_some, if_true]
  by_cases h : (s.size : Int) > 5000
  · rw [if_pos h]
  · rw [if_neg h]
    exact sums_l0 s (by omega) cuts (by omega) 50 K 0 [] s (by omega) (by omega) rfl (by simp [bytesOf]) (by omega)
end Go.Proofs.YtncdfikcdchimaaDoor.Pure
