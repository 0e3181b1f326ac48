/- NumsAlike: the pure statement, over numbers and lists alone; no conditions. -/
import Derived.Test.YtncdfikcdchimaaStatNumsAlike
set_option linter.unusedVariables false
set_option linter.unusedSimpArgs false
namespace Go.Proofs.Ytncdfikcdchimaa.Pure
open Go Go.RowKit Go.Proofs.Ytncdfikcdchimaa.Ev
/-! ### whole numbers -/
theorem wf_i64 {n : Int} (h : Ty.wf (.int .i64) n) : -9223372036854775808 ≤ n ∧ n ≤ 9223372036854775807 := by
  have h : (Lit.int .i64 n).wf = true := h
  simpa [Lit.wf, IntKind.min, IntKind.max, IntKind.signed, IntKind.bits] using h
theorem w64 {n : Int} (h0 : -9223372036854775808 ≤ n) (h1 : n ≤ 9223372036854775807) : wrap64 n = n := by unfold wrap64; omega
theorem tdiv_pos {a b : Int} (ha : 0 ≤ a) : Int.tdiv a b = a / b := Int.tdiv_eq_ediv_of_nonneg ha
theorem tmod_pos {a b : Int} (ha : 0 ≤ a) : Int.tmod a b = a % b := Int.tmod_eq_emod_of_nonneg ha
theorem bytesOf_append (a b : List Int) : bytesOf a ++ bytesOf b = bytesOf (a ++ b) := by
  apply ByteArray.ext
  simp [bytesOf]
theorem cond_t {α : Type} {c : Bool} {a b : α} (h : c = true) : (bif c then a else b) = a := by rw [h]; rfl
theorem cond_f {α : Type} {c : Bool} {a b : α} (h : c = false) : (bif c then a else b) = b := by rw [h]; rfl
theorem optb_some {α β : Type} (a : α) (f : α → Option β) : optb (some a) f = f a := rfl
/-! ### sets of small numbers -/
abbrev u64max : Int := 18446744073709551616
def UU (a : Int) : Prop := 0 ≤ a ∧ a < 18446744073709551616
theorem UU_nat {n : Nat} (h : n < 18446744073709551616) : UU (n : Int) := by unfold UU; omega
theorem u64_wrap {n : Nat} (h : n < 18446744073709551616) : IntKind.u64.wrap (n : Int) = n := by rw [IntKind.wrap_u64]; omega
theorem ofInt_nat {a : Int} (h : UU a) : (BitVec.ofInt 64 a).toNat = a.toNat := by
  obtain ⟨h0, h1⟩ := h
  rw [BitVec.toNat_ofInt]; show (a % 18446744073709551616).toNat = a.toNat
  rw [Int.emod_eq_of_lt h0 h1]
theorem u_and {a b : Int} (ha : UU a) (hb : UU b) : bitop .and .u64 a b = ((a.toNat &&& b.toNat : Nat) : Int) := by
  have hlt : a.toNat &&& b.toNat < 18446744073709551616 := Nat.lt_of_le_of_lt Nat.and_le_left (by have := ha; unfold UU at this; omega)
  show IntKind.u64.wrap ((BitVec.ofInt 64 a &&& BitVec.ofInt 64 b).toNat : Int) = _
  rw [BitVec.toNat_and, ofInt_nat ha, ofInt_nat hb, u64_wrap hlt]
theorem u_or {a b : Int} (ha : UU a) (hb : UU b) : bitop .or .u64 a b = ((a.toNat ||| b.toNat : Nat) : Int) ∧ a.toNat ||| b.toNat < 18446744073709551616 := by
  have hlt : a.toNat ||| b.toNat < 2 ^ 64 := Nat.or_lt_two_pow (by unfold UU at ha; omega) (by unfold UU at hb; omega)
  refine ⟨?_, hlt⟩
  show IntKind.u64.wrap ((BitVec.ofInt 64 a ||| BitVec.ofInt 64 b).toNat : Int) = _
  rw [BitVec.toNat_or, ofInt_nat ha, ofInt_nat hb, u64_wrap hlt]
theorem u_bit {a : Int} (ha : UU a) {m : Int} (h0 : 0 ≤ m) (h1 : m < 64) : decide (bitop .and .u64 (shrv .u64 a m) 1 = 1) = a.toNat.testBit m.toNat := by
  have e1 : shrv .u64 a m = a / 2 ^ m.toNat := by
    unfold shrv
    have : min m.toNat IntKind.u64.bits = m.toNat := by show min m.toNat 64 = _; omega
    rw [this]
  have e2 : a / 2 ^ m.toNat = ((a.toNat / 2 ^ m.toNat : Nat) : Int) := by
    have : a = (a.toNat : Int) := by unfold UU at ha; omega
    conv => lhs; rw [this]
    simp
  have hle : a.toNat / 2 ^ m.toNat ≤ a.toNat := Nat.div_le_self _ _
  rw [e1, e2, u_and (UU_nat (Nat.lt_of_le_of_lt hle (by unfold UU at ha; omega))) (by unfold UU; decide), Int.toNat_natCast, Nat.testBit_eq_decide_div_mod_eq]
  have : a.toNat / 2 ^ m.toNat &&& (1 : Int).toNat = a.toNat / 2 ^ m.toNat % 2 := Nat.and_one_is_mod _
  rw [this]
  rw [decide_eq_decide]; omega
theorem u_pow {m : Int} (h0 : 0 ≤ m) (h1 : m < 64) : shlv .u64 1 m = ((2 ^ m.toNat : Nat) : Int) ∧ UU ((2 ^ m.toNat : Nat) : Int) := by
  have hlt : 2 ^ m.toNat < 2 ^ 64 := Nat.pow_lt_pow_right (by decide) (by omega)
  have h64 : (2 : Nat) ^ 64 = 18446744073709551616 := by decide
  refine ⟨?_, UU_nat (by omega)⟩
  unfold shlv
  have : min m.toNat IntKind.u64.bits = m.toNat := by show min m.toNat 64 = _; omega
  rw [this, Int.one_mul]
  have e : (2 : Int) ^ m.toNat = ((2 ^ m.toNat : Nat) : Int) := by simp
  rw [e, u64_wrap (by omega)]
theorem u_set {a : Int} (ha : UU a) {m : Int} (h0 : 0 ≤ m) (h1 : m < 64) : UU (bitop .or .u64 a (shlv .u64 1 m)) ∧ ∀ i, (bitop .or .u64 a (shlv .u64 1 m)).toNat.testBit i = (a.toNat.testBit i || decide (m.toNat = i)) := by
  obtain ⟨e, hp⟩ := u_pow h0 h1
  obtain ⟨e2, hlt⟩ := u_or ha hp
  rw [e, e2]
  refine ⟨by unfold UU; omega, fun i => ?_⟩
  rw [Int.toNat_natCast, Int.toNat_natCast, Nat.testBit_or, Nat.testBit_two_pow]
def mem (a0 a1 a2 a3 : Int) (i : Nat) : Bool :=
  if i < 64 then a0.toNat.testBit i else if i < 128 then a1.toNat.testBit (i - 64) else if i < 192 then a2.toNat.testBit (i - 128) else if i < 256 then a3.toNat.testBit (i - 192) else false
structure U4 (a0 a1 a2 a3 : Int) : Prop where
  h0 : UU a0
  h1 : UU a1
  h2 : UU a2
  h3 : UU a3
theorem word_of {n : Int} (h0 : 0 ≤ n) (h1 : n < 256) : wrap64 (Int.tdiv n 64) = n / 64 ∧ Int.tmod n 64 = n % 64 ∧ 0 ≤ n % 64 ∧ n % 64 < 64 ∧ (n / 64 = 0 ∧ n < 64 ∧ n % 64 = n ∨ n / 64 = 1 ∧ 64 ≤ n ∧ n < 128 ∧ n % 64 = n - 64 ∨ n / 64 = 2 ∧ 128 ≤ n ∧ n < 192 ∧ n % 64 = n - 128 ∨ n / 64 = 3 ∧ 192 ≤ n ∧ n % 64 = n - 192) := by
  rw [tdiv_pos h0, tmod_pos h0, w64 (by omega) (by omega)]
  omega
theorem has_val (k : Nat) {a0 a1 a2 a3 : Int} (h : U4 a0 a1 a2 a3) (n : Int) : nums_Set_Has k a0 a1 a2 a3 n = some (decide (0 ≤ n ∧ n < 256) && mem a0 a1 a2 a3 n.toNat) := by
  unfold nums_Set_Has nums_holds
  by_cases hn : 0 ≤ n ∧ n < 256
  · obtain ⟨e1, e2, e3, e4, hc⟩ := word_of hn.1 hn.2
    simp only [Bool.cond_decide, optb, e1, e2]
    rw [if_pos hn.1]
    simp only
    rw [decide_eq_true hn.2, decide_eq_true hn, cond_true, Bool.true_and]
    unfold mem
    rcases hc with ⟨c1, c2, c3⟩ | ⟨c1, c2, c3, c4⟩ | ⟨c1, c2, c3, c4⟩ | ⟨c1, c2, c3⟩
    · rw [if_pos c1, if_neg (by omega), if_pos (by omega), u_bit h.h0 e3 e4, c3]
    · rw [if_neg (by omega), if_pos c1, if_neg (by omega), if_neg (by omega), if_pos (by omega), u_bit h.h1 e3 e4, c4, show (n - 64).toNat = n.toNat - 64 by omega]
    · rw [if_neg (by omega), if_neg (by omega), if_pos c1, if_neg (by omega), if_neg (by omega), if_neg (by omega), if_pos (by omega), u_bit h.h2 e3 e4, c4, show (n - 128).toNat = n.toNat - 128 by omega]
    · rw [if_neg (by omega), if_neg (by omega), if_neg (by omega), if_pos c1, if_neg (by omega), if_neg (by omega), if_neg (by omega), if_neg (by omega), if_pos (by omega), u_bit h.h3 e3 e4, c3, show (n - 192).toNat = n.toNat - 192 by omega]
  · rw [decide_eq_false hn, Bool.false_and]
    simp only [Bool.cond_decide]
    by_cases h0 : 0 ≤ n
    · rw [if_pos h0, decide_eq_false (by omega)]; rfl
    · rw [if_neg h0]; rfl
theorem with_val (k : Nat) {a0 a1 a2 a3 : Int} (h : U4 a0 a1 a2 a3) (n : Int) : ∃ b0 b1 b2 b3, nums_Set_With k a0 a1 a2 a3 n = some (b0, (b1, (b2, b3))) ∧ U4 b0 b1 b2 b3 ∧
    ∀ i : Nat, mem b0 b1 b2 b3 i = (mem a0 a1 a2 a3 i || decide ((i : Int) = n ∧ i < 256)) := by
  unfold nums_Set_With nums_holds nums_Set_With_j0 nums_Set_With_k0
  by_cases hn : 0 ≤ n ∧ n < 256
  · obtain ⟨e1, e2, e3, e4, hc⟩ := word_of hn.1 hn.2
    simp only [Bool.cond_decide, optb, e1, e2]
    rw [if_pos hn.1]
    simp only
    rw [decide_eq_true hn.2, cond_true]
    have key : ∀ (w : Int) (lo : Nat) (i : Nat), UU w → (n % 64 = n - lo) → (lo : Int) ≤ n → lo ≤ i → (bitop .or .u64 w (shlv .u64 1 (n % 64))).toNat.testBit (i - lo) = (w.toNat.testBit (i - lo) || decide ((i : Int) = n)) := fun w lo i hw hm hl hi => by
      rw [(u_set hw e3 e4).2]; congr 1; rw [decide_eq_decide]; omega
    have far : ∀ (b c : Bool) (i : Nat), ((i : Int) ≠ n) → b = c → b = (c || decide ((i : Int) = n ∧ i < 256)) := fun b c i hi hb => by rw [decide_eq_false (fun h => hi h.1), Bool.or_false]; exact hb
    rcases hc with ⟨c1, c2, c3⟩ | ⟨c1, c2, c3, c4⟩ | ⟨c1, c2, c3, c4⟩ | ⟨c1, c2, c3⟩
    · rw [if_pos c1, if_neg (by omega), if_pos c1]
      refine ⟨_, _, _, _, rfl, ⟨(u_set h.h0 e3 e4).1, h.h1, h.h2, h.h3⟩, fun i => ?_⟩
      unfold mem
      by_cases hi : i < 64
      · rw [if_pos hi, if_pos hi]
        have := key a0 0 i h.h0 (by omega) (by omega) (by omega)
        rw [Nat.sub_zero] at this
        rw [this]; congr 1; rw [decide_eq_decide]; omega
      · rw [if_neg hi, if_neg hi]; exact far _ _ _ (by omega) rfl
    · rw [if_neg (by omega), if_pos c1, if_neg (by omega), if_neg (by omega), if_pos c1]
      refine ⟨_, _, _, _, rfl, ⟨h.h0, (u_set h.h1 e3 e4).1, h.h2, h.h3⟩, fun i => ?_⟩
      unfold mem
      by_cases hi : i < 64
      · rw [if_pos hi, if_pos hi]; exact far _ _ _ (by omega) rfl
      by_cases hi2 : i < 128
      · rw [if_neg hi, if_neg hi, if_pos hi2, if_pos hi2, key a1 64 i h.h1 (by omega) (by omega) (by omega)]; congr 1; rw [decide_eq_decide]; omega
      · rw [if_neg hi, if_neg hi, if_neg hi2, if_neg hi2]; exact far _ _ _ (by omega) rfl
    · rw [if_neg (by omega), if_neg (by omega), if_pos c1, if_neg (by omega), if_neg (by omega), if_neg (by omega), if_pos c1]
      refine ⟨_, _, _, _, rfl, ⟨h.h0, h.h1, (u_set h.h2 e3 e4).1, h.h3⟩, fun i => ?_⟩
      unfold mem
      by_cases hi : i < 64
      · rw [if_pos hi, if_pos hi]; exact far _ _ _ (by omega) rfl
      by_cases hi2 : i < 128
      · rw [if_neg hi, if_neg hi, if_pos hi2, if_pos hi2]; exact far _ _ _ (by omega) rfl
      by_cases hi3 : i < 192
      · rw [if_neg hi, if_neg hi, if_neg hi2, if_neg hi2, if_pos hi3, if_pos hi3, key a2 128 i h.h2 (by omega) (by omega) (by omega)]; congr 1; rw [decide_eq_decide]; omega
      · rw [if_neg hi, if_neg hi, if_neg hi2, if_neg hi2, if_neg hi3, if_neg hi3]; exact far _ _ _ (by omega) rfl
    · rw [if_neg (by omega), if_neg (by omega), if_neg (by omega), if_pos c1, if_neg (by omega), if_neg (by omega), if_neg (by omega), if_neg (by omega), if_pos c1]
      refine ⟨_, _, _, _, rfl, ⟨h.h0, h.h1, h.h2, (u_set h.h3 e3 e4).1⟩, fun i => ?_⟩
      unfold mem
      by_cases hi : i < 64
      · rw [if_pos hi, if_pos hi]; exact far _ _ _ (by omega) rfl
      by_cases hi2 : i < 128
      · rw [if_neg hi, if_neg hi, if_pos hi2, if_pos hi2]; exact far _ _ _ (by omega) rfl
      by_cases hi3 : i < 192
      · rw [if_neg hi, if_neg hi, if_neg hi2, if_neg hi2, if_pos hi3, if_pos hi3]; exact far _ _ _ (by omega) rfl
      by_cases hi4 : i < 256
      · rw [if_neg hi, if_neg hi, if_neg hi2, if_neg hi2, if_neg hi3, if_neg hi3, if_pos hi4, if_pos hi4, key a3 192 i h.h3 (by omega) (by omega) (by omega)]; congr 1; rw [decide_eq_decide]; omega
      · rw [if_neg hi, if_neg hi, if_neg hi2, if_neg hi2, if_neg hi3, if_neg hi3, if_neg hi4, if_neg hi4]; exact far _ _ _ (by omega) rfl
  · refine ⟨a0, a1, a2, a3, ?_, h, fun i => by rw [decide_eq_false (by omega), Bool.or_false]⟩
    simp only [Bool.cond_decide]
    by_cases h0 : 0 ≤ n
    · rw [if_pos h0, decide_eq_false (by omega)]; rfl
    · rw [if_neg h0]; rfl
theorem u_clr {a : Int} (ha : UU a) {m : Int} (h0 : 0 ≤ m) (h1 : m < 64) : UU (bitop .andNot .u64 a (shlv .u64 1 m)) ∧ ∀ i, (bitop .andNot .u64 a (shlv .u64 1 m)).toNat.testBit i = (a.toNat.testBit i && !decide (m.toNat = i)) := by
  obtain ⟨e, hp⟩ := u_pow h0 h1
  rw [e]
  obtain ⟨x, hx⟩ : ∃ x : BitVec 64, BitVec.ofInt 64 a &&& ~~~ BitVec.ofInt 64 ((2 ^ m.toNat : Nat) : Int) = x := ⟨_, rfl⟩
  have hb : bitop .andNot .u64 a ((2 ^ m.toNat : Nat) : Int) = (x.toNat : Int) := by
    rw [← hx]
    show IntKind.u64.wrap ((BitVec.ofInt 64 a &&& ~~~ BitVec.ofInt 64 ((2 ^ m.toNat : Nat) : Int)).toNat : Int) = _
    rw [hx]
    exact u64_wrap x.isLt
  rw [hb]
  refine ⟨by have := x.isLt; unfold UU; omega, fun i => ?_⟩
  rw [Int.toNat_natCast]
  show x.getLsbD i = _
  rw [← hx, BitVec.getLsbD_and, BitVec.getLsbD_not]
  have ea : (BitVec.ofInt 64 a).getLsbD i = a.toNat.testBit i := by show (BitVec.ofInt 64 a).toNat.testBit i = _; rw [ofInt_nat ha]
  have eb : (BitVec.ofInt 64 ((2 ^ m.toNat : Nat) : Int)).getLsbD i = decide (m.toNat = i) := by show (BitVec.ofInt 64 ((2 ^ m.toNat : Nat) : Int)).toNat.testBit i = _; rw [ofInt_nat hp, Int.toNat_natCast, Nat.testBit_two_pow]
  rw [ea, eb]
  by_cases hi : i < 64
  · rw [decide_eq_true hi, Bool.true_and]
  · have : a.toNat.testBit i = false := Nat.testBit_lt_two_pow (Nat.lt_of_lt_of_le (show a.toNat < 2 ^ 64 by unfold UU at ha; omega) (Nat.pow_le_pow_right (by decide) (by omega)))
    rw [this]; rfl
theorem without_val (k : Nat) {a0 a1 a2 a3 : Int} (h : U4 a0 a1 a2 a3) (n : Int) : ∃ b0 b1 b2 b3, nums_Set_Without k a0 a1 a2 a3 n = some (b0, (b1, (b2, b3))) ∧ U4 b0 b1 b2 b3 ∧
    ∀ i : Nat, mem b0 b1 b2 b3 i = (mem a0 a1 a2 a3 i && !decide ((i : Int) = n ∧ i < 256)) := by
  unfold nums_Set_Without nums_holds nums_Set_Without_j0 nums_Set_Without_k0
  by_cases hn : 0 ≤ n ∧ n < 256
  · obtain ⟨e1, e2, e3, e4, hc⟩ := word_of hn.1 hn.2
    simp only [Bool.cond_decide, optb, e1, e2]
    rw [if_pos hn.1]
    simp only
    rw [decide_eq_true hn.2, cond_true]
    have key : ∀ (w : Int) (lo : Nat) (i : Nat), UU w → (n % 64 = n - lo) → (lo : Int) ≤ n → lo ≤ i → (bitop .andNot .u64 w (shlv .u64 1 (n % 64))).toNat.testBit (i - lo) = (w.toNat.testBit (i - lo) && !decide ((i : Int) = n)) := fun w lo i hw hm hl hi => by
      rw [(u_clr hw e3 e4).2]; congr 2; rw [decide_eq_decide]; omega
    have far : ∀ (b c : Bool) (i : Nat), ((i : Int) ≠ n) → b = c → b = (c && !decide ((i : Int) = n ∧ i < 256)) := fun b c i hi hb => by rw [decide_eq_false (fun h => hi h.1), Bool.not_false, Bool.and_true]; exact hb
    rcases hc with ⟨c1, c2, c3⟩ | ⟨c1, c2, c3, c4⟩ | ⟨c1, c2, c3, c4⟩ | ⟨c1, c2, c3⟩
    · rw [if_pos c1, if_neg (by omega), if_pos c1]
      refine ⟨_, _, _, _, rfl, ⟨(u_clr h.h0 e3 e4).1, h.h1, h.h2, h.h3⟩, fun i => ?_⟩
      unfold mem
      by_cases hi : i < 64
      · rw [if_pos hi, if_pos hi]
        have := key a0 0 i h.h0 (by omega) (by omega) (by omega)
        rw [Nat.sub_zero] at this
        rw [this]; congr 2; rw [decide_eq_decide]; omega
      · rw [if_neg hi, if_neg hi]; exact far _ _ _ (by omega) rfl
    · rw [if_neg (by omega), if_pos c1, if_neg (by omega), if_neg (by omega), if_pos c1]
      refine ⟨_, _, _, _, rfl, ⟨h.h0, (u_clr h.h1 e3 e4).1, h.h2, h.h3⟩, fun i => ?_⟩
      unfold mem
      by_cases hi : i < 64
      · rw [if_pos hi, if_pos hi]; exact far _ _ _ (by omega) rfl
      by_cases hi2 : i < 128
      · rw [if_neg hi, if_neg hi, if_pos hi2, if_pos hi2, key a1 64 i h.h1 (by omega) (by omega) (by omega)]; congr 2; rw [decide_eq_decide]; omega
      · rw [if_neg hi, if_neg hi, if_neg hi2, if_neg hi2]; exact far _ _ _ (by omega) rfl
    · rw [if_neg (by omega), if_neg (by omega), if_pos c1, if_neg (by omega), if_neg (by omega), if_neg (by omega), if_pos c1]
      refine ⟨_, _, _, _, rfl, ⟨h.h0, h.h1, (u_clr h.h2 e3 e4).1, h.h3⟩, fun i => ?_⟩
      unfold mem
      by_cases hi : i < 64
      · rw [if_pos hi, if_pos hi]; exact far _ _ _ (by omega) rfl
      by_cases hi2 : i < 128
      · rw [if_neg hi, if_neg hi, if_pos hi2, if_pos hi2]; exact far _ _ _ (by omega) rfl
      by_cases hi3 : i < 192
      · rw [if_neg hi, if_neg hi, if_neg hi2, if_neg hi2, if_pos hi3, if_pos hi3, key a2 128 i h.h2 (by omega) (by omega) (by omega)]; congr 2; rw [decide_eq_decide]; omega
      · rw [if_neg hi, if_neg hi, if_neg hi2, if_neg hi2, if_neg hi3, if_neg hi3]; exact far _ _ _ (by omega) rfl
    · rw [if_neg (by omega), if_neg (by omega), if_neg (by omega), if_pos c1, if_neg (by omega), if_neg (by omega), if_neg (by omega), if_neg (by omega), if_pos c1]
      refine ⟨_, _, _, _, rfl, ⟨h.h0, h.h1, h.h2, (u_clr h.h3 e3 e4).1⟩, fun i => ?_⟩
      unfold mem
      by_cases hi : i < 64
      · rw [if_pos hi, if_pos hi]; exact far _ _ _ (by omega) rfl
      by_cases hi2 : i < 128
      · rw [if_neg hi, if_neg hi, if_pos hi2, if_pos hi2]; exact far _ _ _ (by omega) rfl
      by_cases hi3 : i < 192
      · rw [if_neg hi, if_neg hi, if_neg hi2, if_neg hi2, if_pos hi3, if_pos hi3]; exact far _ _ _ (by omega) rfl
      by_cases hi4 : i < 256
      · rw [if_neg hi, if_neg hi, if_neg hi2, if_neg hi2, if_neg hi3, if_neg hi3, if_pos hi4, if_pos hi4, key a3 192 i h.h3 (by omega) (by omega) (by omega)]; congr 2; rw [decide_eq_decide]; omega
      · rw [if_neg hi, if_neg hi, if_neg hi2, if_neg hi2, if_neg hi3, if_neg hi3, if_neg hi4, if_neg hi4]; exact far _ _ _ (by omega) rfl
  · refine ⟨a0, a1, a2, a3, ?_, h, fun i => by rw [decide_eq_false (by omega), Bool.not_false, Bool.and_true]⟩
    simp only [Bool.cond_decide]
    by_cases h0 : 0 ≤ n
    · rw [if_pos h0, decide_eq_false (by omega)]; rfl
    · rw [if_neg h0]; rfl
theorem mem_lt {a0 a1 a2 a3 : Int} {i : Nat} (h : mem a0 a1 a2 a3 i = true) : i < 256 := by
  unfold mem at h
  split at h
  · omega
  · split at h
    · omega
    · split at h
      · omega
      · split at h
        · omega
        · cases h
theorem mem_zero (i : Nat) : mem 0 0 0 0 i = false := by
  unfold mem
  have : ∀ j, Nat.testBit (0 : Int).toNat j = false := fun j => Nat.zero_testBit j
  simp only [this, ite_self]
/-- A set of all numbers of a list. -/
theorem of_loop {R : Type} (e0 : Int → Int → Int → Int → Option R) (k : Nat) (L : List Int) (hL : L.length ≤ 100000) (m : Nat) :
    ∀ (j i : Nat) {a0 a1 a2 a3 : Int}, L.length - i = m → i ≤ L.length → m < j → U4 a0 a1 a2 a3 → (∀ q : Nat, mem a0 a1 a2 a3 q = true ↔ q < 256 ∧ (q : Int) ∈ L.take i) →
      ∃ b0 b1 b2 b3, nums_Of_l0 e0 k L (L.length : Int) j (i : Int) a0 a1 a2 a3 = e0 b0 b1 b2 b3 ∧ U4 b0 b1 b2 b3 ∧ ∀ q : Nat, mem b0 b1 b2 b3 q = true ↔ q < 256 ∧ (q : Int) ∈ L := by
  induction m with
  | zero =>
    intro j i a0 a1 a2 a3 hm hi hj hu hq
    obtain ⟨j, rfl⟩ : ∃ q, j = q + 1 := ⟨j - 1, by omega⟩
    have : i = L.length := by omega
    subst this
    rw [List.take_length] at hq
    refine ⟨a0, a1, a2, a3, ?_, hu, hq⟩
    show nums_Of_l0s _ e0 k L (L.length : Int) (L.length : Int) a0 a1 a2 a3 = _
    simp only [nums_Of_l0s, Bool.cond_decide]
    rw [if_neg (by omega)]
  | succ m ih =>
    intro j i a0 a1 a2 a3 hm hi hj hu hq
    obtain ⟨j, rfl⟩ : ∃ q, j = q + 1 := ⟨j - 1, by omega⟩
    have hlt : i < L.length := by omega
    obtain ⟨b0, b1, b2, b3, h1, h2, h3⟩ := with_val k hu L[i]
    obtain ⟨c0, c1, c2, c3, h4, h5, h6⟩ := ih j (i + 1) (a0 := b0) (a1 := b1) (a2 := b2) (a3 := b3) (by omega) hlt (by omega) h2 (fun q => by
      rw [h3, Bool.or_eq_true, hq, decide_eq_true_eq, List.take_succ_eq_append_getElem hlt, List.mem_append, List.mem_singleton]
      constructor
      · rintro (⟨g1, g2⟩ | ⟨g1, g2⟩)
        · exact ⟨g1, .inl g2⟩
        · exact ⟨g2, .inr g1⟩
      · rintro ⟨g1, g2 | g2⟩
        · exact .inl ⟨g1, g2⟩
        · exact .inr ⟨g2, g1⟩)
    refine ⟨c0, c1, c2, c3, ?_, h5, h6⟩
    show nums_Of_l0s _ e0 k L (L.length : Int) (i : Int) a0 a1 a2 a3 = _
    simp only [nums_Of_l0s, Bool.cond_decide]
    rw [if_pos (by omega), if_pos (by omega), Int.toNat_natCast, List.getElem?_eq_getElem hlt]
    simp only [optb, h1]
    rw [w64 (n := (i : Int) + 1) (by omega) (by omega)]
    exact h4
theorem of_val (k : Nat) (nl : Bool) (L : List Int) (hL : L.length ≤ 100000) (hk : L.length < k) : ∃ b0 b1 b2 b3, nums_Of k nl L = some (b0, (b1, (b2, b3))) ∧ U4 b0 b1 b2 b3 ∧ ∀ q : Nat, mem b0 b1 b2 b3 q = true ↔ q < 256 ∧ (q : Int) ∈ L := by
  have z : UU 0 := by unfold UU; decide
  obtain ⟨b0, b1, b2, b3, h1, h2, h3⟩ := of_loop (fun a b c d => some (a, (b, (c, d)))) k L hL L.length k 0 (a0 := 0) (a1 := 0) (a2 := 0) (a3 := 0) (by omega) (by omega) hk ⟨z, z, z, z⟩ (fun q => by rw [mem_zero]; simp)
  refine ⟨b0, b1, b2, b3, ?_, h2, h3⟩
  unfold nums_Of
  rw [lenI_eq]
  exact h1
/-- The next one. -/
theorem next_loop {R : Type} (e0 : Int → Option R) (e1 : Option R) (k : Nat) {a0 a1 a2 a3 : Int} (h : U4 a0 a1 a2 a3) (m : Nat) : ∀ (j f : Nat), 256 - f = m → m < j →
    (nums_Set_Next_l0 e0 e1 k a0 a1 a2 a3 j (f : Int) = e1 ∧ ∀ i, f ≤ i → mem a0 a1 a2 a3 i = false) ∨
    ∃ r : Nat, f ≤ r ∧ r < 256 ∧ nums_Set_Next_l0 e0 e1 k a0 a1 a2 a3 j (f : Int) = e0 r ∧ mem a0 a1 a2 a3 r = true ∧ ∀ i, f ≤ i → i < r → mem a0 a1 a2 a3 i = false := by
  have no : ∀ i, 256 ≤ i → mem a0 a1 a2 a3 i = false := fun i hi => by
    cases hm : mem a0 a1 a2 a3 i with
    | false => rfl
    | true => have := mem_lt hm; omega
  induction m with
  | zero =>
    intro j f hm hj
    obtain ⟨j, rfl⟩ : ∃ q, j = q + 1 := ⟨j - 1, by omega⟩
    left
    refine ⟨?_, fun i hi => no i (by omega)⟩
    show nums_Set_Next_l0s _ e0 e1 k a0 a1 a2 a3 (f : Int) = _
    simp only [nums_Set_Next_l0s, Bool.cond_decide]
    rw [if_neg (by omega)]
  | succ m ih =>
    intro j f hm hj
    obtain ⟨j, rfl⟩ : ∃ q, j = q + 1 := ⟨j - 1, by omega⟩
    have e : nums_Set_Next_l0 e0 e1 k a0 a1 a2 a3 (j + 1) (f : Int) = nums_Set_Next_l0s (nums_Set_Next_l0 e0 e1 k a0 a1 a2 a3 j) e0 e1 k a0 a1 a2 a3 (f : Int) := rfl
    rw [e]
    simp only [nums_Set_Next_l0s, Bool.cond_decide, has_val k h, optb, Int.toNat_natCast]
    rw [if_pos (by omega), decide_eq_true (show 0 ≤ (f : Int) ∧ (f : Int) < 256 by omega), Bool.true_and]
    cases hf : mem a0 a1 a2 a3 f with
    | true => exact .inr ⟨f, Nat.le_refl _, by omega, rfl, hf, fun i h1 h2 => by omega⟩
    | false =>
      rw [cond_false, w64 (n := (f : Int) + 1) (by omega) (by omega), show (f : Int) + 1 = ((f + 1 : Nat) : Int) by omega]
      rcases ih j (f + 1) (by omega) (by omega) with ⟨h1, h2⟩ | ⟨r, h1, h2, h3, h4, h5⟩
      · exact .inl ⟨h1, fun i hi => by
          by_cases hif : i = f
          · subst hif; exact hf
          · exact h2 i (by omega)⟩
      · exact .inr ⟨r, by omega, h2, h3, h4, fun i hi1 hi2 => by
          by_cases hif : i = f
          · subst hif; exact hf
          · exact h5 i (by omega) hi2⟩
theorem next_val (k : Nat) {a0 a1 a2 a3 : Int} (h : U4 a0 a1 a2 a3) (n : Int) (hk : 256 < k) (hn : n ≤ 100000) :
    (nums_Set_Next k a0 a1 a2 a3 n = some (-1) ∧ ∀ i : Nat, n ≤ i → mem a0 a1 a2 a3 i = false) ∨
    ∃ r : Nat, n ≤ r ∧ r < 256 ∧ nums_Set_Next k a0 a1 a2 a3 n = some (r : Int) ∧ mem a0 a1 a2 a3 r = true ∧ ∀ i : Nat, n ≤ i → i < r → mem a0 a1 a2 a3 i = false := by
  have e : (bif decide ((0 : Int) > n) then (0 : Int) else n) = (n.toNat : Int) := by
    rw [Bool.cond_decide]; split <;> omega
  have e2 : nums_Set_Next k a0 a1 a2 a3 n = nums_Set_Next_l0 (fun v => some v) (some (-1)) k a0 a1 a2 a3 k (n.toNat : Int) := by unfold nums_Set_Next; rw [e]
  rw [e2]
  rcases next_loop (fun v => some v) (some (-1)) k h (256 - n.toNat) k n.toNat rfl (by omega) with ⟨h1, h2⟩ | ⟨r, h1, h2, h3, h4, h5⟩
  · exact .inl ⟨h1, fun i hi => h2 i (by omega)⟩
  · exact .inr ⟨r, by omega, h2, h3, h4, fun i hi1 hi2 => h5 i (by omega) hi2⟩
/-! ### all numbers of a set, rising -/
def ml (g : Nat → Bool) : Nat → Nat → List Int
  | _, 0 => []
  | lo, n + 1 => if g lo then (lo : Int) :: ml g (lo + 1) n else ml g (lo + 1) n
theorem ml_none (g : Nat → Bool) : ∀ (n lo : Nat), (∀ i, lo ≤ i → i < lo + n → g i = false) → ml g lo n = []
  | 0, _, _ => rfl
  | n + 1, lo, h => by
    show (if g lo then _ else _) = _
    rw [h lo (by omega) (by omega), if_neg (by decide)]
    exact ml_none g n (lo + 1) fun i h1 h2 => h i (by omega) (by omega)
theorem ml_add (g : Nat → Bool) : ∀ (m lo n : Nat), ml g lo (m + n) = ml g lo m ++ ml g (lo + m) n
  | 0, lo, n => by rw [Nat.zero_add, Nat.add_zero]; rfl
  | m + 1, lo, n => by
    rw [show m + 1 + n = (m + n) + 1 by omega]
    show (if g lo then _ else _) = (if g lo then _ else _) ++ _
    rw [ml_add g m (lo + 1) n, show lo + 1 + m = lo + (m + 1) by omega]
    cases g lo <;> rfl
theorem ml_len (g : Nat → Bool) : ∀ (n lo : Nat), (ml g lo n).length ≤ n
  | 0, _ => Nat.le_refl _
  | n + 1, lo => by
    show (if g lo then _ else _ : List Int).length ≤ _
    have := ml_len g n (lo + 1)
    split
    · rw [List.length_cons]; omega
    · omega
theorem ml_mem (g : Nat → Bool) (x : Int) : ∀ (n lo : Nat), x ∈ ml g lo n ↔ ∃ i : Nat, x = i ∧ lo ≤ i ∧ i < lo + n ∧ g i = true
  | 0, lo => ⟨fun h => (by cases h), fun ⟨i, _, h1, h2, _⟩ => (by omega)⟩
  | n + 1, lo => by
    have ih := ml_mem g x n (lo + 1)
    have e : ml g lo (n + 1) = if g lo then (lo : Int) :: ml g (lo + 1) n else ml g (lo + 1) n := rfl
    rw [e]
    constructor
    · intro h
      split at h
      · rename_i hg
        rcases List.mem_cons.1 h with h | h
        · exact ⟨lo, h, Nat.le_refl _, by omega, hg⟩
        · obtain ⟨i, h1, h2, h3, h4⟩ := ih.1 h
          exact ⟨i, h1, by omega, by omega, h4⟩
      · obtain ⟨i, h1, h2, h3, h4⟩ := ih.1 h
        exact ⟨i, h1, by omega, by omega, h4⟩
    · rintro ⟨i, h1, h2, h3, h4⟩
      by_cases ei : i = lo
      · rw [← ei, if_pos h4, h1]; exact List.mem_cons_self ..
      · have := ih.2 ⟨i, h1, by omega, by omega, h4⟩
        split
        · exact List.mem_cons_of_mem _ this
        · exact this
theorem walk_val (k : Nat) (hk : 300 < k) {a0 a1 a2 a3 : Int} (h : U4 a0 a1 a2 a3) (m : Nat) : ∀ (lo j : Nat) (cur : Int), 256 - lo = m → m < j → lo ≤ 256 →
    (cur = -1 ∧ (∀ i : Nat, lo ≤ i → mem a0 a1 a2 a3 i = false) ∨ ∃ r : Nat, cur = r ∧ lo ≤ r ∧ r < 256 ∧ mem a0 a1 a2 a3 r = true ∧ ∀ i : Nat, lo ≤ i → i < r → mem a0 a1 a2 a3 i = false) →
    nums_Set_List_walk k a0 a1 a2 a3 j cur = some (ml (mem a0 a1 a2 a3) lo (256 - lo)) := by
  induction m using Nat.strongRecOn with
  | ind m ih =>
    intro lo j cur hm hj hlo hc
    obtain ⟨j, rfl⟩ : ∃ q, j = q + 1 := ⟨j - 1, by omega⟩
    show (bif decide (cur < (0 : Int)) then some [] else bif decide (cur < (256 : Int)) then optb (nums_Set_Next k a0 a1 a2 a3 (cur + 1)) fun m => optb (nums_Set_List_walk k a0 a1 a2 a3 j m) fun l => some (cur :: l) else none) = _
    rcases hc with ⟨rfl, hno⟩ | ⟨r, rfl, h1, h2, h3, h4⟩
    · rw [cond_t (decide_eq_true (by decide)), ml_none _ _ _ (fun i hi _ => hno i hi)]
    · have hsplit : ml (mem a0 a1 a2 a3) lo (256 - lo) = (r : Int) :: ml (mem a0 a1 a2 a3) (r + 1) (256 - (r + 1)) := by
        rw [show 256 - lo = (r - lo) + ((256 - (r + 1)) + 1) by omega, ml_add, ml_none _ (r - lo) lo (fun i a b => h4 i a (by omega)), show lo + (r - lo) = r by omega]
        show [] ++ (if mem a0 a1 a2 a3 r then _ else _) = _
        rw [if_pos h3]; rfl
      rw [cond_f (decide_eq_false (by omega)), cond_t (decide_eq_true (by omega)), hsplit]
      rcases next_val k h ((r : Int) + 1) (by omega) (by omega) with ⟨g1, g2⟩ | ⟨r', g1, g2, g3, g4, g5⟩
      · rw [g1, optb_some, ih (256 - (r + 1)) (by omega) (r + 1) j (-1) rfl (by omega) (by omega) (.inl ⟨rfl, fun i hi => g2 i (by omega)⟩), optb_some]
      · rw [g3, optb_some, ih (256 - (r + 1)) (by omega) (r + 1) j (r' : Int) rfl (by omega) (by omega) (.inr ⟨r', rfl, by omega, g2, g4, fun i a b => g5 i (by omega) b⟩), optb_some]
theorem list_val (k : Nat) (hk : 300 < k) {a0 a1 a2 a3 : Int} (h : U4 a0 a1 a2 a3) : nums_Set_List k a0 a1 a2 a3 = some ((ml (mem a0 a1 a2 a3) 0 256).isEmpty, ml (mem a0 a1 a2 a3) 0 256) := by
  unfold nums_Set_List
  by_cases hz : a0 = 0 ∧ a1 = 0 ∧ a2 = 0 ∧ a3 = 0
  · obtain ⟨rfl, rfl, rfl, rfl⟩ := hz
    rw [ml_none _ 256 0 (fun i _ _ => mem_zero i)]; rfl
  · have hzb : (decide (a0 = (0 : Int)) && (decide (a1 = (0 : Int)) && (decide (a2 = (0 : Int)) && decide (a3 = (0 : Int))))) = false := by
      rw [Bool.eq_false_iff]
      intro h
      simp only [Bool.and_eq_true, decide_eq_true_eq] at h
      exact hz h
    rw [hzb, cond_false]
    have hlen := ml_len (mem a0 a1 a2 a3) 256 0
    rcases next_val k h 0 (by omega) (by decide) with ⟨g1, g2⟩ | ⟨r, g1, g2, g3, g4, g5⟩
    · rw [g1, optb_some, walk_val k hk h 256 0 k (-1) rfl (by omega) (by omega) (.inl ⟨rfl, fun i hi => g2 i (by omega)⟩), optb_some, cond_t (decide_eq_true (by show (ml _ 0 256).length ≤ 1000; omega))]
    · rw [g3, optb_some, walk_val k hk h 256 0 k (r : Int) rfl (by omega) (by omega) (.inr ⟨r, rfl, by omega, g2, g4, fun i a b => g5 i (by omega) b⟩), optb_some, cond_t (decide_eq_true (by show (ml _ 0 256).length ≤ 1000; omega))]
theorem ints_same (k : Nat) (a b : Bool) (l : List Int) (hl : l.length ≤ 1000) (hk : 1001 < k) : corbellaw01_ints k a l b l = some true := by
  unfold corbellaw01_ints
  rw [decide_eq_true rfl, Bool.not_true, cond_false]
  have go : ∀ (m i j : Nat), l.length - i = m → i ≤ l.length → m < j → corbellaw01_ints_l0 (fun v => some v) (some true) k l l j (i : Int) = some true := by
    intro m
    induction m with
    | zero =>
      intro i j hm hi hj
      obtain ⟨j, rfl⟩ : ∃ q, j = q + 1 := ⟨j - 1, by omega⟩
      show corbellaw01_ints_l0s _ _ _ _ _ _ _ = _
      unfold corbellaw01_ints_l0s
      rw [lenI_eq, cond_f (decide_eq_false (by omega))]
    | succ m ih =>
      intro i j hm hi hj
      obtain ⟨j, rfl⟩ : ∃ q, j = q + 1 := ⟨j - 1, by omega⟩
      show corbellaw01_ints_l0s _ _ _ _ _ _ _ = _
      unfold corbellaw01_ints_l0s
      rw [lenI_eq, cond_t (decide_eq_true (by omega)), cond_t (decide_eq_true (by omega)), show (i : Int).toNat = i from rfl, List.getElem?_eq_getElem (by omega), optb_some, cond_t (decide_eq_true (by omega)), optb_some, decide_eq_true rfl, Bool.not_true, cond_false, w64 (by omega) (by omega), show (i : Int) + 1 = ((i + 1 : Nat) : Int) by omega]
      exact ih (i + 1) j (by omega) (by omega) (by omega)
  exact go l.length 0 k (by omega) (by omega) (by omega)
theorem words_eq {a b : Int} (ha : UU a) (hb : UU b) (h : ∀ i, i < 64 → a.toNat.testBit i = b.toNat.testBit i) : a = b := by
  have hn : a.toNat = b.toNat := by
    refine Nat.eq_of_testBit_eq fun i => ?_
    by_cases hi : i < 64
    · exact h i hi
    · have hp : (2 : Nat) ^ 64 ≤ 2 ^ i := Nat.pow_le_pow_right (by decide) (by omega)
      have h64 : (2 : Nat) ^ 64 = 18446744073709551616 := by decide
      unfold UU at ha hb
      rw [Nat.testBit_lt_two_pow (by omega), Nat.testBit_lt_two_pow (by omega)]
  unfold UU at ha hb
  omega
theorem sets_eq {a0 a1 a2 a3 b0 b1 b2 b3 : Int} (ha : U4 a0 a1 a2 a3) (hb : U4 b0 b1 b2 b3) (h : ∀ i, mem a0 a1 a2 a3 i = mem b0 b1 b2 b3 i) : a0 = b0 ∧ a1 = b1 ∧ a2 = b2 ∧ a3 = b3 := by
  refine ⟨words_eq ha.h0 hb.h0 fun i hi => ?_, words_eq ha.h1 hb.h1 fun i hi => ?_, words_eq ha.h2 hb.h2 fun i hi => ?_, words_eq ha.h3 hb.h3 fun i hi => ?_⟩
  · have := h i
    unfold mem at this
    rwa [if_pos hi, if_pos hi] at this
  · have := h (64 + i)
    unfold mem at this
    rwa [if_neg (by omega), if_pos (by omega), if_neg (by omega), if_pos (by omega), show 64 + i - 64 = i by omega] at this
  · have := h (128 + i)
    unfold mem at this
    rwa [if_neg (by omega), if_neg (by omega), if_pos (by omega), if_neg (by omega), if_neg (by omega), if_pos (by omega), show 128 + i - 128 = i by omega] at this
  · have := h (192 + i)
    unfold mem at this
    rwa [if_neg (by omega), if_neg (by omega), if_neg (by omega), if_pos (by omega), if_neg (by omega), if_neg (by omega), if_neg (by omega), if_pos (by omega), show 192 + i - 192 = i by omega] at this
theorem speaks01 (d : Nat) : corbellaw01_speaks (d + 300) = some true := by kernel_rfl
def Tw (L : List Int) : Nat → List Int
  | 0 => []
  | n + 1 => [L.getD n 0, L.getD n 0] ++ Tw L n
theorem Tw_len (L : List Int) : ∀ n, (Tw L n).length = 2 * n
  | 0 => rfl
  | n + 1 => by show ([L.getD n 0, L.getD n 0] ++ Tw L n).length = _; rw [List.length_append, Tw_len L n]; show 2 + 2 * n = _; omega
theorem Tw_mem (L : List Int) (q : Int) : ∀ n, n ≤ L.length → (q ∈ Tw L n ↔ q ∈ L.take n)
  | 0, _ => by simp [Tw]
  | n + 1, h => by
    have hn : n < L.length := by omega
    have e : L.getD n 0 = L[n] := by rw [List.getD_eq_getElem?_getD, List.getElem?_eq_getElem hn]; rfl
    show q ∈ [L.getD n 0, L.getD n 0] ++ Tw L n ↔ _
    rw [e, List.mem_append, Tw_mem L q n (by omega), List.take_succ_eq_append_getElem hn, List.mem_append]
    simp only [List.mem_cons, List.not_mem_nil, or_false, or_self]
    exact Or.comm
theorem turned_go {R : Type} (e0 : List Int → Option R) (k : Nat) (L : List Int) (hL : L.length ≤ 300) : ∀ (n j : Nat) (acc : List Int), n ≤ L.length → n < j → acc.length ≤ 2 * (L.length - n) →
    corbellaw01_NumsAlike_l0 e0 k L j ((n : Int) - 1) acc = e0 (acc ++ Tw L n) := by
  intro n
  induction n with
  | zero =>
    intro j acc hn hj ha
    obtain ⟨j, rfl⟩ : ∃ q, j = q + 1 := ⟨j - 1, by omega⟩
    show corbellaw01_NumsAlike_l0s _ _ _ _ _ _ = _
    unfold corbellaw01_NumsAlike_l0s
    rw [cond_f (decide_eq_false (by omega))]
    show _ = e0 (acc ++ [])
    rw [List.append_nil]
  | succ n ih =>
    intro j acc hn hj ha
    obtain ⟨j, rfl⟩ : ∃ q, j = q + 1 := ⟨j - 1, by omega⟩
    have hlt : n < L.length := by omega
    have e : L.getD n 0 = L[n] := by rw [List.getD_eq_getElem?_getD, List.getElem?_eq_getElem hlt]; rfl
    show corbellaw01_NumsAlike_l0s _ _ _ _ _ _ = _
    unfold corbellaw01_NumsAlike_l0s
    rw [show ((n + 1 : Nat) : Int) - 1 = (n : Int) by omega, cond_t (decide_eq_true (by omega)), cond_t (decide_eq_true (by omega)), show (n : Int).toNat = n from rfl, List.getElem?_eq_getElem hlt, optb_some, cond_t (decide_eq_true (by omega)), optb_some, cond_t (decide_eq_true (by show acc.length + 2 ≤ _; omega)), w64 (by omega) (by omega)]
    rw [ih j (acc ++ [L[n], L[n]]) (by omega) (by omega) (by rw [List.length_append]; show acc.length + 2 ≤ _; omega), List.append_assoc]
    show _ = e0 (acc ++ ([L.getD n 0, L.getD n 0] ++ Tw L n))
    rw [e]
theorem again_go {R : Type} (e0 : Int → Int → Int → Int → Option R) (k : Nat) (L : List Int) (hL : L.length ≤ 300) : ∀ (m j i : Nat) {a0 a1 a2 a3 : Int}, L.length - i = m → i ≤ L.length → m < j → U4 a0 a1 a2 a3 → (∀ q : Nat, mem a0 a1 a2 a3 q = true ↔ q < 256 ∧ (q : Int) ∈ L) →
    ∃ b0 b1 b2 b3, corbellaw01_NumsAlike_l1 e0 k L j (i : Int) a0 a1 a2 a3 = e0 b0 b1 b2 b3 ∧ U4 b0 b1 b2 b3 ∧ ∀ q : Nat, mem b0 b1 b2 b3 q = true ↔ q < 256 ∧ (q : Int) ∈ L := by
  intro m
  induction m with
  | zero =>
    intro j i a0 a1 a2 a3 hm hi hj hu hq
    obtain ⟨j, rfl⟩ : ∃ q, j = q + 1 := ⟨j - 1, by omega⟩
    refine ⟨a0, a1, a2, a3, ?_, hu, hq⟩
    show corbellaw01_NumsAlike_l1s _ _ _ _ _ _ _ _ _ = _
    unfold corbellaw01_NumsAlike_l1s
    rw [lenI_eq, cond_f (decide_eq_false (by omega))]
  | succ m ih =>
    intro j i a0 a1 a2 a3 hm hi hj hu hq
    obtain ⟨j, rfl⟩ : ∃ q, j = q + 1 := ⟨j - 1, by omega⟩
    have hlt : i < L.length := by omega
    obtain ⟨b0, b1, b2, b3, h1, h2, h3⟩ := without_val k hu L[i]
    obtain ⟨c0, c1, c2, c3, h4, h5, h6⟩ := with_val k h2 L[i]
    have hin : L[i] ∈ L := List.getElem_mem hlt
    obtain ⟨d0, d1, d2, d3, h7, h8, h9⟩ := ih j (i + 1) (a0 := c0) (a1 := c1) (a2 := c2) (a3 := c3) (by omega) (by omega) (by omega) h5 (fun q => by
      rw [h6, h3, Bool.or_eq_true, Bool.and_eq_true, hq, Bool.not_eq_true', decide_eq_false_iff_not, decide_eq_true_eq]
      constructor
      · rintro (⟨g, _⟩ | ⟨g1, g2⟩)
        · exact g
        · exact ⟨g2, by rw [g1]; exact hin⟩
      · intro g
        by_cases e : (q : Int) = L[i]
        · exact .inr ⟨e, g.1⟩
        · exact .inl ⟨g, fun x => e x.1⟩)
    refine ⟨d0, d1, d2, d3, Eq.trans ?_ h7, h8, h9⟩
    show corbellaw01_NumsAlike_l1s _ _ _ _ _ _ _ _ _ = _
    unfold corbellaw01_NumsAlike_l1s
    rw [lenI_eq, cond_t (decide_eq_true (by omega)), cond_t (decide_eq_true (by omega)), show (i : Int).toNat = i from rfl, List.getElem?_eq_getElem hlt, optb_some, h1, optb_some, cond_t (decide_eq_true (by omega)), optb_some]
    simp only []
    rw [h4, optb_some, w64 (by omega) (by omega), show (i : Int) + 1 = ((i + 1 : Nat) : Int) by omega]
theorem NumsAlike : NumsAlikePure := by
  intro x hx
  obtain ⟨c, L⟩ := x
  refine ⟨2000 + 300, ?_⟩
  unfold corbellaw01_NumsAlike
  rw [speaks01 2000, optb_some, Bool.not_true, cond_false]
  simp only [lenI_eq]
  by_cases hl : (300 : Int) < ((List.length L : Nat) : Int)
  · rw [cond_t (decide_eq_true hl)]
  rw [cond_f (decide_eq_false hl), w64 (by omega) (by omega)]
  refine (turned_go _ (2000 + 300) L (by omega) L.length (2000 + 300) [] (Nat.le_refl _) (by omega) (by simp)).trans ?_
  rw [List.nil_append]
  have htl := Tw_len L L.length
  obtain ⟨a0, a1, a2, a3, p1, p2, p3⟩ := of_val (2000 + 300) c L (by omega) (by omega)
  obtain ⟨b0, b1, b2, b3, q1, q2, q3⟩ := of_val (2000 + 300) true (Tw L L.length) (by omega) (by omega)
  rw [p1, optb_some, q1, optb_some]
  have q4 : ∀ q : Nat, mem b0 b1 b2 b3 q = true ↔ q < 256 ∧ (q : Int) ∈ L := fun q => by
    rw [q3, Tw_mem L q L.length (Nat.le_refl _), List.take_length]
  obtain ⟨c0, c1, c2, c3, r1, r2, r3⟩ := again_go (R := Bool) _ (2000 + 300) L (by omega) L.length (2000 + 300) 0 (by omega) (by omega) (by omega) q2 q4
  refine Eq.trans r1 ?_
  have hm : ∀ i, mem a0 a1 a2 a3 i = mem c0 c1 c2 c3 i := fun i => by
    rw [Bool.eq_iff_iff, p3, r3]
  obtain ⟨rfl, rfl, rfl, rfl⟩ := sets_eq p2 r2 hm
  simp only [decide_true, Bool.and_self, cond_true]
  have hlv := list_val (2000 + 300) (by omega) p2
  have hlen := ml_len (mem a0 a1 a2 a3) 256 0
  rw [hlv, optb_some, optb_some]
  rw [ints_same (2000 + 300) _ _ (ml (mem a0 a1 a2 a3) 0 256) (by omega) (by omega), optb_some]
end Go.Proofs.Ytncdfikcdchimaa.Pure
