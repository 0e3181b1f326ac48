/- NumsScripts: the pure statement, over numbers and lists alone; no conditions. -/
import Derived.Test.YtncdfikcdchimaaStatNumsScripts
set_option linter.unusedVariables false
set_option linter.unusedSimpArgs false
namespace Go.Proofs.Ytncdfikcdchimaa.Pure
open Go Go.RowKit Go.Proofs.Ytncdfikcdchimaa.Ev
/-! ### whole numbers -/
theorem wf_i64 {n : Int} (h : Ty.wf (.int .i64) n) : -9223372036854775808 ≤ n ∧ n ≤ 9223372036854775807 := by
  have h : (Lit.int .i64 n).wf = true := h
  simpa [Lit.wf, IntKind.min, IntKind.max, IntKind.signed, IntKind.bits] using h
theorem w64 {n : Int} (h0 : -9223372036854775808 ≤ n) (h1 : n ≤ 9223372036854775807) : wrap64 n = n := by unfold wrap64; omega
theorem tdiv_pos {a b : Int} (ha : 0 ≤ a) : Int.tdiv a b = a / b := Int.tdiv_eq_ediv_of_nonneg ha
theorem tmod_pos {a b : Int} (ha : 0 ≤ a) : Int.tmod a b = a % b := Int.tmod_eq_emod_of_nonneg ha
theorem bytesOf_append (a b : List Int) : bytesOf a ++ bytesOf b = bytesOf (a ++ b) := by
  apply ByteArray.ext
  simp [bytesOf]
theorem cond_t {α : Type} {c : Bool} {a b : α} (h : c = true) : (bif c then a else b) = a := by rw [h]; rfl
theorem cond_f {α : Type} {c : Bool} {a b : α} (h : c = false) : (bif c then a else b) = b := by rw [h]; rfl
theorem optb_some {α β : Type} (a : α) (f : α → Option β) : optb (some a) f = f a := rfl
/-! ### sets of small numbers -/
abbrev u64max : Int := 18446744073709551616
def UU (a : Int) : Prop := 0 ≤ a ∧ a < 18446744073709551616
theorem UU_nat {n : Nat} (h : n < 18446744073709551616) : UU (n : Int) := by unfold UU; omega
theorem u64_wrap {n : Nat} (h : n < 18446744073709551616) : IntKind.u64.wrap (n : Int) = n := by rw [IntKind.wrap_u64]; omega
theorem ofInt_nat {a : Int} (h : UU a) : (BitVec.ofInt 64 a).toNat = a.toNat := by
  obtain ⟨h0, h1⟩ := h
  rw [BitVec.toNat_ofInt]; show (a % 18446744073709551616).toNat = a.toNat
  rw [Int.emod_eq_of_lt h0 h1]
theorem u_and {a b : Int} (ha : UU a) (hb : UU b) : bitop .and .u64 a b = ((a.toNat &&& b.toNat : Nat) : Int) := by
  have hlt : a.toNat &&& b.toNat < 18446744073709551616 := Nat.lt_of_le_of_lt Nat.and_le_left (by have := ha; unfold UU at this; omega)
  show IntKind.u64.wrap ((BitVec.ofInt 64 a &&& BitVec.ofInt 64 b).toNat : Int) = _
  rw [BitVec.toNat_and, ofInt_nat ha, ofInt_nat hb, u64_wrap hlt]
theorem u_or {a b : Int} (ha : UU a) (hb : UU b) : bitop .or .u64 a b = ((a.toNat ||| b.toNat : Nat) : Int) ∧ a.toNat ||| b.toNat < 18446744073709551616 := by
  have hlt : a.toNat ||| b.toNat < 2 ^ 64 := Nat.or_lt_two_pow (by unfold UU at ha; omega) (by unfold UU at hb; omega)
  refine ⟨?_, hlt⟩
  show IntKind.u64.wrap ((BitVec.ofInt 64 a ||| BitVec.ofInt 64 b).toNat : Int) = _
  rw [BitVec.toNat_or, ofInt_nat ha, ofInt_nat hb, u64_wrap hlt]
theorem u_bit {a : Int} (ha : UU a) {m : Int} (h0 : 0 ≤ m) (h1 : m < 64) : decide (bitop .and .u64 (shrv .u64 a m) 1 = 1) = a.toNat.testBit m.toNat := by
  have e1 : shrv .u64 a m = a / 2 ^ m.toNat := by
    unfold shrv
    have : min m.toNat IntKind.u64.bits = m.toNat := by show min m.toNat 64 = _; omega
    rw [this]
  have e2 : a / 2 ^ m.toNat = ((a.toNat / 2 ^ m.toNat : Nat) : Int) := by
    have : a = (a.toNat : Int) := by unfold UU at ha; omega
    conv => lhs; rw [this]
    simp
  have hle : a.toNat / 2 ^ m.toNat ≤ a.toNat := Nat.div_le_self _ _
  rw [e1, e2, u_and (UU_nat (Nat.lt_of_le_of_lt hle (by unfold UU at ha; omega))) (by unfold UU; decide), Int.toNat_natCast, Nat.testBit_eq_decide_div_mod_eq]
  have : a.toNat / 2 ^ m.toNat &&& (1 : Int).toNat = a.toNat / 2 ^ m.toNat % 2 := Nat.and_one_is_mod _
  rw [this]
  rw [decide_eq_decide]; omega
theorem u_pow {m : Int} (h0 : 0 ≤ m) (h1 : m < 64) : shlv .u64 1 m = ((2 ^ m.toNat : Nat) : Int) ∧ UU ((2 ^ m.toNat : Nat) : Int) := by
  have hlt : 2 ^ m.toNat < 2 ^ 64 := Nat.pow_lt_pow_right (by decide) (by omega)
  have h64 : (2 : Nat) ^ 64 = 18446744073709551616 := by decide
  refine ⟨?_, UU_nat (by omega)⟩
  unfold shlv
  have : min m.toNat IntKind.u64.bits = m.toNat := by show min m.toNat 64 = _; omega
  rw [this, Int.one_mul]
  have e : (2 : Int) ^ m.toNat = ((2 ^ m.toNat : Nat) : Int) := by simp
  rw [e, u64_wrap (by omega)]
theorem u_set {a : Int} (ha : UU a) {m : Int} (h0 : 0 ≤ m) (h1 : m < 64) : UU (bitop .or .u64 a (shlv .u64 1 m)) ∧ ∀ i, (bitop .or .u64 a (shlv .u64 1 m)).toNat.testBit i = (a.toNat.testBit i || decide (m.toNat = i)) := by
  obtain ⟨e, hp⟩ := u_pow h0 h1
  obtain ⟨e2, hlt⟩ := u_or ha hp
  rw [e, e2]
  refine ⟨by unfold UU; omega, fun i => ?_⟩
  rw [Int.toNat_natCast, Int.toNat_natCast, Nat.testBit_or, Nat.testBit_two_pow]
def mem (a0 a1 a2 a3 : Int) (i : Nat) : Bool :=
  if i < 64 then a0.toNat.testBit i else if i < 128 then a1.toNat.testBit (i - 64) else if i < 192 then a2.toNat.testBit (i - 128) else if i < 256 then a3.toNat.testBit (i - 192) else false
structure U4 (a0 a1 a2 a3 : Int) : Prop where
  h0 : UU a0
  h1 : UU a1
  h2 : UU a2
  h3 : UU a3
theorem word_of {n : Int} (h0 : 0 ≤ n) (h1 : n < 256) : wrap64 (Int.tdiv n 64) = n / 64 ∧ Int.tmod n 64 = n % 64 ∧ 0 ≤ n % 64 ∧ n % 64 < 64 ∧ (n / 64 = 0 ∧ n < 64 ∧ n % 64 = n ∨ n / 64 = 1 ∧ 64 ≤ n ∧ n < 128 ∧ n % 64 = n - 64 ∨ n / 64 = 2 ∧ 128 ≤ n ∧ n < 192 ∧ n % 64 = n - 128 ∨ n / 64 = 3 ∧ 192 ≤ n ∧ n % 64 = n - 192) := by
  rw [tdiv_pos h0, tmod_pos h0, w64 (by omega) (by omega)]
  omega
theorem has_val (k : Nat) {a0 a1 a2 a3 : Int} (h : U4 a0 a1 a2 a3) (n : Int) : nums_Set_Has k a0 a1 a2 a3 n = some (decide (0 ≤ n ∧ n < 256) && mem a0 a1 a2 a3 n.toNat) := by
  unfold nums_Set_Has nums_holds
  by_cases hn : 0 ≤ n ∧ n < 256
  · obtain ⟨e1, e2, e3, e4, hc⟩ := word_of hn.1 hn.2
    simp only [Bool.cond_decide, optb, e1, e2]
    rw [if_pos hn.1]
    simp only
    rw [decide_eq_true hn.2, decide_eq_true hn, cond_true, Bool.true_and]
    unfold mem
    rcases hc with ⟨c1, c2, c3⟩ | ⟨c1, c2, c3, c4⟩ | ⟨c1, c2, c3, c4⟩ | ⟨c1, c2, c3⟩
    · rw [if_pos c1, if_neg (by omega), if_pos (by omega), u_bit h.h0 e3 e4, c3]
    · rw [if_neg (by omega), if_pos c1, if_neg (by omega), if_neg (by omega), if_pos (by omega), u_bit h.h1 e3 e4, c4, show (n - 64).toNat = n.toNat - 64 by omega]
    · rw [if_neg (by omega), if_neg (by omega), if_pos c1, if_neg (by omega), if_neg (by omega), if_neg (by omega), if_pos (by omega), u_bit h.h2 e3 e4, c4, show (n - 128).toNat = n.toNat - 128 by omega]
    · rw [if_neg (by omega), if_neg (by omega), if_neg (by omega), if_pos c1, if_neg (by omega), if_neg (by omega), if_neg (by omega), if_neg (by omega), if_pos (by omega), u_bit h.h3 e3 e4, c3, show (n - 192).toNat = n.toNat - 192 by omega]
  · rw [decide_eq_false hn, Bool.false_and]
    simp only [Bool.cond_decide]
    by_cases h0 : 0 ≤ n
    · rw [if_pos h0, decide_eq_false (by omega)]; rfl
    · rw [if_neg h0]; rfl
theorem with_val (k : Nat) {a0 a1 a2 a3 : Int} (h : U4 a0 a1 a2 a3) (n : Int) : ∃ b0 b1 b2 b3, nums_Set_With k a0 a1 a2 a3 n = some (b0, (b1, (b2, b3))) ∧ U4 b0 b1 b2 b3 ∧
    ∀ i : Nat, mem b0 b1 b2 b3 i = (mem a0 a1 a2 a3 i || decide ((i : Int) = n ∧ i < 256)) := by
  unfold nums_Set_With nums_holds nums_Set_With_j0 nums_Set_With_k0
  by_cases hn : 0 ≤ n ∧ n < 256
  · obtain ⟨e1, e2, e3, e4, hc⟩ := word_of hn.1 hn.2
    simp only [Bool.cond_decide, optb, e1, e2]
    rw [if_pos hn.1]
    simp only
    rw [decide_eq_true hn.2, cond_true]
    have key : ∀ (w : Int) (lo : Nat) (i : Nat), UU w → (n % 64 = n - lo) → (lo : Int) ≤ n → lo ≤ i → (bitop .or .u64 w (shlv .u64 1 (n % 64))).toNat.testBit (i - lo) = (w.toNat.testBit (i - lo) || decide ((i : Int) = n)) := fun w lo i hw hm hl hi => by
      rw [(u_set hw e3 e4).2]; congr 1; rw [decide_eq_decide]; omega
    have far : ∀ (b c : Bool) (i : Nat), ((i : Int) ≠ n) → b = c → b = (c || decide ((i : Int) = n ∧ i < 256)) := fun b c i hi hb => by rw [decide_eq_false (fun h => hi h.1), Bool.or_false]; exact hb
    rcases hc with ⟨c1, c2, c3⟩ | ⟨c1, c2, c3, c4⟩ | ⟨c1, c2, c3, c4⟩ | ⟨c1, c2, c3⟩
    · rw [if_pos c1, if_neg (by omega), if_pos c1]
      refine ⟨_, _, _, _, rfl, ⟨(u_set h.h0 e3 e4).1, h.h1, h.h2, h.h3⟩, fun i => ?_⟩
      unfold mem
      by_cases hi : i < 64
      · rw [if_pos hi, if_pos hi]
        have := key a0 0 i h.h0 (by omega) (by omega) (by omega)
        rw [Nat.sub_zero] at this
        rw [this]; congr 1; rw [decide_eq_decide]; omega
      · rw [if_neg hi, if_neg hi]; exact far _ _ _ (by omega) rfl
    · rw [if_neg (by omega), if_pos c1, if_neg (by omega), if_neg (by omega), if_pos c1]
      refine ⟨_, _, _, _, rfl, ⟨h.h0, (u_set h.h1 e3 e4).1, h.h2, h.h3⟩, fun i => ?_⟩
      unfold mem
      by_cases hi : i < 64
      · rw [if_pos hi, if_pos hi]; exact far _ _ _ (by omega) rfl
      by_cases hi2 : i < 128
      · rw [if_neg hi, if_neg hi, if_pos hi2, if_pos hi2, key a1 64 i h.h1 (by omega) (by omega) (by omega)]; congr 1; rw [decide_eq_decide]; omega
      · rw [if_neg hi, if_neg hi, if_neg hi2, if_neg hi2]; exact far _ _ _ (by omega) rfl
    · rw [if_neg (by omega), if_neg (by omega), if_pos c1, if_neg (by omega), if_neg (by omega), if_neg (by omega), if_pos c1]
      refine ⟨_, _, _, _, rfl, ⟨h.h0, h.h1, (u_set h.h2 e3 e4).1, h.h3⟩, fun i => ?_⟩
      unfold mem
      by_cases hi : i < 64
      · rw [if_pos hi, if_pos hi]; exact far _ _ _ (by omega) rfl
      by_cases hi2 : i < 128
      · rw [if_neg hi, if_neg hi, if_pos hi2, if_pos hi2]; exact far _ _ _ (by omega) rfl
      by_cases hi3 : i < 192
      · rw [if_neg hi, if_neg hi, if_neg hi2, if_neg hi2, if_pos hi3, if_pos hi3, key a2 128 i h.h2 (by omega) (by omega) (by omega)]; congr 1; rw [decide_eq_decide]; omega
      · rw [if_neg hi, if_neg hi, if_neg hi2, if_neg hi2, if_neg hi3, if_neg hi3]; exact far _ _ _ (by omega) rfl
    · rw [if_neg (by omega), if_neg (by omega), if_neg (by omega), if_pos c1, if_neg (by omega), if_neg (by omega), if_neg (by omega), if_neg (by omega), if_pos c1]
      refine ⟨_, _, _, _, rfl, ⟨h.h0, h.h1, h.h2, (u_set h.h3 e3 e4).1⟩, fun i => ?_⟩
      unfold mem
      by_cases hi : i < 64
      · rw [if_pos hi, if_pos hi]; exact far _ _ _ (by omega) rfl
      by_cases hi2 : i < 128
      · rw [if_neg hi, if_neg hi, if_pos hi2, if_pos hi2]; exact far _ _ _ (by omega) rfl
      by_cases hi3 : i < 192
      · rw [if_neg hi, if_neg hi, if_neg hi2, if_neg hi2, if_pos hi3, if_pos hi3]; exact far _ _ _ (by omega) rfl
      by_cases hi4 : i < 256
      · rw [if_neg hi, if_neg hi, if_neg hi2, if_neg hi2, if_neg hi3, if_neg hi3, if_pos hi4, if_pos hi4, key a3 192 i h.h3 (by omega) (by omega) (by omega)]; congr 1; rw [decide_eq_decide]; omega
      · rw [if_neg hi, if_neg hi, if_neg hi2, if_neg hi2, if_neg hi3, if_neg hi3, if_neg hi4, if_neg hi4]; exact far _ _ _ (by omega) rfl
  · refine ⟨a0, a1, a2, a3, ?_, h, fun i => by rw [decide_eq_false (by omega), Bool.or_false]⟩
    simp only [Bool.cond_decide]
    by_cases h0 : 0 ≤ n
    · rw [if_pos h0, decide_eq_false (by omega)]; rfl
    · rw [if_neg h0]; rfl
theorem u_clr {a : Int} (ha : UU a) {m : Int} (h0 : 0 ≤ m) (h1 : m < 64) : UU (bitop .andNot .u64 a (shlv .u64 1 m)) ∧ ∀ i, (bitop .andNot .u64 a (shlv .u64 1 m)).toNat.testBit i = (a.toNat.testBit i && !decide (m.toNat = i)) := by
  obtain ⟨e, hp⟩ := u_pow h0 h1
  rw [e]
  obtain ⟨x, hx⟩ : ∃ x : BitVec 64, BitVec.ofInt 64 a &&& ~~~ BitVec.ofInt 64 ((2 ^ m.toNat : Nat) : Int) = x := ⟨_, rfl⟩
  have hb : bitop .andNot .u64 a ((2 ^ m.toNat : Nat) : Int) = (x.toNat : Int) := by
    rw [← hx]
    show IntKind.u64.wrap ((BitVec.ofInt 64 a &&& ~~~ BitVec.ofInt 64 ((2 ^ m.toNat : Nat) : Int)).toNat : Int) = _
    rw [hx]
    exact u64_wrap x.isLt
  rw [hb]
  refine ⟨by have := x.isLt; unfold UU; omega, fun i => ?_⟩
  rw [Int.toNat_natCast]
  show x.getLsbD i = _
  rw [← hx, BitVec.getLsbD_and, BitVec.getLsbD_not]
  have ea : (BitVec.ofInt 64 a).getLsbD i = a.toNat.testBit i := by show (BitVec.ofInt 64 a).toNat.testBit i = _; rw [ofInt_nat ha]
  have eb : (BitVec.ofInt 64 ((2 ^ m.toNat : Nat) : Int)).getLsbD i = decide (m.toNat = i) := by show (BitVec.ofInt 64 ((2 ^ m.toNat : Nat) : Int)).toNat.testBit i = _; rw [ofInt_nat hp, Int.toNat_natCast, Nat.testBit_two_pow]
  rw [ea, eb]
  by_cases hi : i < 64
  · rw [decide_eq_true hi, Bool.true_and]
  · have : a.toNat.testBit i = false := Nat.testBit_lt_two_pow (Nat.lt_of_lt_of_le (show a.toNat < 2 ^ 64 by unfold UU at ha; omega) (Nat.pow_le_pow_right (by decide) (by omega)))
    rw [this]; rfl
theorem without_val (k : Nat) {a0 a1 a2 a3 : Int} (h : U4 a0 a1 a2 a3) (n : Int) : ∃ b0 b1 b2 b3, nums_Set_Without k a0 a1 a2 a3 n = some (b0, (b1, (b2, b3))) ∧ U4 b0 b1 b2 b3 ∧
    ∀ i : Nat, mem b0 b1 b2 b3 i = (mem a0 a1 a2 a3 i && !decide ((i : Int) = n ∧ i < 256)) := by
  unfold nums_Set_Without nums_holds nums_Set_Without_j0 nums_Set_Without_k0
  by_cases hn : 0 ≤ n ∧ n < 256
  · obtain ⟨e1, e2, e3, e4, hc⟩ := word_of hn.1 hn.2
    simp only [Bool.cond_decide, optb, e1, e2]
    rw [if_pos hn.1]
    simp only
    rw [decide_eq_true hn.2, cond_true]
    have key : ∀ (w : Int) (lo : Nat) (i : Nat), UU w → (n % 64 = n - lo) → (lo : Int) ≤ n → lo ≤ i → (bitop .andNot .u64 w (shlv .u64 1 (n % 64))).toNat.testBit (i - lo) = (w.toNat.testBit (i - lo) && !decide ((i : Int) = n)) := fun w lo i hw hm hl hi => by
      rw [(u_clr hw e3 e4).2]; congr 2; rw [decide_eq_decide]; omega
    have far : ∀ (b c : Bool) (i : Nat), ((i : Int) ≠ n) → b = c → b = (c && !decide ((i : Int) = n ∧ i < 256)) := fun b c i hi hb => by rw [decide_eq_false (fun h => hi h.1), Bool.not_false, Bool.and_true]; exact hb
    rcases hc with ⟨c1, c2, c3⟩ | ⟨c1, c2, c3, c4⟩ | ⟨c1, c2, c3, c4⟩ | ⟨c1, c2, c3⟩
    · rw [if_pos c1, if_neg (by omega), if_pos c1]
      refine ⟨_, _, _, _, rfl, ⟨(u_clr h.h0 e3 e4).1, h.h1, h.h2, h.h3⟩, fun i => ?_⟩
      unfold mem
      by_cases hi : i < 64
      · rw [if_pos hi, if_pos hi]
        have := key a0 0 i h.h0 (by omega) (by omega) (by omega)
        rw [Nat.sub_zero] at this
        rw [this]; congr 2; rw [decide_eq_decide]; omega
      · rw [if_neg hi, if_neg hi]; exact far _ _ _ (by omega) rfl
    · rw [if_neg (by omega), if_pos c1, if_neg (by omega), if_neg (by omega), if_pos c1]
      refine ⟨_, _, _, _, rfl, ⟨h.h0, (u_clr h.h1 e3 e4).1, h.h2, h.h3⟩, fun i => ?_⟩
      unfold mem
      by_cases hi : i < 64
      · rw [if_pos hi, if_pos hi]; exact far _ _ _ (by omega) rfl
      by_cases hi2 : i < 128
      · rw [if_neg hi, if_neg hi, if_pos hi2, if_pos hi2, key a1 64 i h.h1 (by omega) (by omega) (by omega)]; congr 2; rw [decide_eq_decide]; omega
      · rw [if_neg hi, if_neg hi, if_neg hi2, if_neg hi2]; exact far _ _ _ (by omega) rfl
    · rw [if_neg (by omega), if_neg (by omega), if_pos c1, if_neg (by omega), if_neg (by omega), if_neg (by omega), if_pos c1]
      refine ⟨_, _, _, _, rfl, ⟨h.h0, h.h1, (u_clr h.h2 e3 e4).1, h.h3⟩, fun i => ?_⟩
      unfold mem
      by_cases hi : i < 64
      · rw [if_pos hi, if_pos hi]; exact far _ _ _ (by omega) rfl
      by_cases hi2 : i < 128
      · rw [if_neg hi, if_neg hi, if_pos hi2, if_pos hi2]; exact far _ _ _ (by omega) rfl
      by_cases hi3 : i < 192
      · rw [if_neg hi, if_neg hi, if_neg hi2, if_neg hi2, if_pos hi3, if_pos hi3, key a2 128 i h.h2 (by omega) (by omega) (by omega)]; congr 2; rw [decide_eq_decide]; omega
      · rw [if_neg hi, if_neg hi, if_neg hi2, if_neg hi2, if_neg hi3, if_neg hi3]; exact far _ _ _ (by omega) rfl
    · rw [if_neg (by omega), if_neg (by omega), if_neg (by omega), if_pos c1, if_neg (by omega), if_neg (by omega), if_neg (by omega), if_neg (by omega), if_pos c1]
      refine ⟨_, _, _, _, rfl, ⟨h.h0, h.h1, h.h2, (u_clr h.h3 e3 e4).1⟩, fun i => ?_⟩
      unfold mem
      by_cases hi : i < 64
      · rw [if_pos hi, if_pos hi]; exact far _ _ _ (by omega) rfl
      by_cases hi2 : i < 128
      · rw [if_neg hi, if_neg hi, if_pos hi2, if_pos hi2]; exact far _ _ _ (by omega) rfl
      by_cases hi3 : i < 192
      · rw [if_neg hi, if_neg hi, if_neg hi2, if_neg hi2, if_pos hi3, if_pos hi3]; exact far _ _ _ (by omega) rfl
      by_cases hi4 : i < 256
      · rw [if_neg hi, if_neg hi, if_neg hi2, if_neg hi2, if_neg hi3, if_neg hi3, if_pos hi4, if_pos hi4, key a3 192 i h.h3 (by omega) (by omega) (by omega)]; congr 2; rw [decide_eq_decide]; omega
      · rw [if_neg hi, if_neg hi, if_neg hi2, if_neg hi2, if_neg hi3, if_neg hi3, if_neg hi4, if_neg hi4]; exact far _ _ _ (by omega) rfl
  · refine ⟨a0, a1, a2, a3, ?_, h, fun i => by rw [decide_eq_false (by omega), Bool.not_false, Bool.and_true]⟩
    simp only [Bool.cond_decide]
    by_cases h0 : 0 ≤ n
    · rw [if_pos h0, decide_eq_false (by omega)]; rfl
    · rw [if_neg h0]; rfl
theorem mem_lt {a0 a1 a2 a3 : Int} {i : Nat} (h : mem a0 a1 a2 a3 i = true) : i < 256 := by
  unfold mem at h
  split at h
  · omega
  · split at h
    · omega
    · split at h
      · omega
      · split at h
        · omega
        · cases h
theorem mem_zero (i : Nat) : mem 0 0 0 0 i = false := by
  unfold mem
  have : ∀ j, Nat.testBit (0 : Int).toNat j = false := fun j => Nat.zero_testBit j
  simp only [this, ite_self]
/-- A set of all numbers of a list. -/
theorem of_loop {R : Type} (e0 : Int → Int → Int → Int → Option R) (k : Nat) (L : List Int) (hL : L.length ≤ 100000) (m : Nat) :
    ∀ (j i : Nat) {a0 a1 a2 a3 : Int}, L.length - i = m → i ≤ L.length → m < j → U4 a0 a1 a2 a3 → (∀ q : Nat, mem a0 a1 a2 a3 q = true ↔ q < 256 ∧ (q : Int) ∈ L.take i) →
      ∃ b0 b1 b2 b3, nums_Of_l0 e0 k L (L.length : Int) j (i : Int) a0 a1 a2 a3 = e0 b0 b1 b2 b3 ∧ U4 b0 b1 b2 b3 ∧ ∀ q : Nat, mem b0 b1 b2 b3 q = true ↔ q < 256 ∧ (q : Int) ∈ L := by
  induction m with
  | zero =>
    intro j i a0 a1 a2 a3 hm hi hj hu hq
    obtain ⟨j, rfl⟩ : ∃ q, j = q + 1 := ⟨j - 1, by omega⟩
    have : i = L.length := by omega
    subst this
    rw [List.take_length] at hq
    refine ⟨a0, a1, a2, a3, ?_, hu, hq⟩
    show nums_Of_l0s _ e0 k L (L.length : Int) (L.length : Int) a0 a1 a2 a3 = _
    simp only [nums_Of_l0s, Bool.cond_decide]
    rw [if_neg (by omega)]
  | succ m ih =>
    intro j i a0 a1 a2 a3 hm hi hj hu hq
    obtain ⟨j, rfl⟩ : ∃ q, j = q + 1 := ⟨j - 1, by omega⟩
    have hlt : i < L.length := by omega
    obtain ⟨b0, b1, b2, b3, h1, h2, h3⟩ := with_val k hu L[i]
    obtain ⟨c0, c1, c2, c3, h4, h5, h6⟩ := ih j (i + 1) (a0 := b0) (a1 := b1) (a2 := b2) (a3 := b3) (by omega) hlt (by omega) h2 (fun q => by
      rw [h3, Bool.or_eq_true, hq, decide_eq_true_eq, List.take_succ_eq_append_getElem hlt, List.mem_append, List.mem_singleton]
      constructor
      · rintro (⟨g1, g2⟩ | ⟨g1, g2⟩)
        · exact ⟨g1, .inl g2⟩
        · exact ⟨g2, .inr g1⟩
      · rintro ⟨g1, g2 | g2⟩
        · exact .inl ⟨g1, g2⟩
        · exact .inr ⟨g2, g1⟩)
    refine ⟨c0, c1, c2, c3, ?_, h5, h6⟩
    show nums_Of_l0s _ e0 k L (L.length : Int) (i : Int) a0 a1 a2 a3 = _
    simp only [nums_Of_l0s, Bool.cond_decide]
    rw [if_pos (by omega), if_pos (by omega), Int.toNat_natCast, List.getElem?_eq_getElem hlt]
    simp only [optb, h1]
    rw [w64 (n := (i : Int) + 1) (by omega) (by omega)]
    exact h4
theorem of_val (k : Nat) (nl : Bool) (L : List Int) (hL : L.length ≤ 100000) (hk : L.length < k) : ∃ b0 b1 b2 b3, nums_Of k nl L = some (b0, (b1, (b2, b3))) ∧ U4 b0 b1 b2 b3 ∧ ∀ q : Nat, mem b0 b1 b2 b3 q = true ↔ q < 256 ∧ (q : Int) ∈ L := by
  have z : UU 0 := by unfold UU; decide
  obtain ⟨b0, b1, b2, b3, h1, h2, h3⟩ := of_loop (fun a b c d => some (a, (b, (c, d)))) k L hL L.length k 0 (a0 := 0) (a1 := 0) (a2 := 0) (a3 := 0) (by omega) (by omega) hk ⟨z, z, z, z⟩ (fun q => by rw [mem_zero]; simp)
  refine ⟨b0, b1, b2, b3, ?_, h2, h3⟩
  unfold nums_Of
  rw [lenI_eq]
  exact h1
/-- The next one. -/
theorem next_loop {R : Type} (e0 : Int → Option R) (e1 : Option R) (k : Nat) {a0 a1 a2 a3 : Int} (h : U4 a0 a1 a2 a3) (m : Nat) : ∀ (j f : Nat), 256 - f = m → m < j →
    (nums_Set_Next_l0 e0 e1 k a0 a1 a2 a3 j (f : Int) = e1 ∧ ∀ i, f ≤ i → mem a0 a1 a2 a3 i = false) ∨
    ∃ r : Nat, f ≤ r ∧ r < 256 ∧ nums_Set_Next_l0 e0 e1 k a0 a1 a2 a3 j (f : Int) = e0 r ∧ mem a0 a1 a2 a3 r = true ∧ ∀ i, f ≤ i → i < r → mem a0 a1 a2 a3 i = false := by
  have no : ∀ i, 256 ≤ i → mem a0 a1 a2 a3 i = false := fun i hi => by
    cases hm : mem a0 a1 a2 a3 i with
    | false => rfl
    | true => have := mem_lt hm; omega
  induction m with
  | zero =>
    intro j f hm hj
    obtain ⟨j, rfl⟩ : ∃ q, j = q + 1 := ⟨j - 1, by omega⟩
    left
    refine ⟨?_, fun i hi => no i (by omega)⟩
    show nums_Set_Next_l0s _ e0 e1 k a0 a1 a2 a3 (f : Int) = _
    simp only [nums_Set_Next_l0s, Bool.cond_decide]
    rw [if_neg (by omega)]
  | succ m ih =>
    intro j f hm hj
    obtain ⟨j, rfl⟩ : ∃ q, j = q + 1 := ⟨j - 1, by omega⟩
    have e : nums_Set_Next_l0 e0 e1 k a0 a1 a2 a3 (j + 1) (f : Int) = nums_Set_Next_l0s (nums_Set_Next_l0 e0 e1 k a0 a1 a2 a3 j) e0 e1 k a0 a1 a2 a3 (f : Int) := rfl
    rw [e]
    simp only [nums_Set_Next_l0s, Bool.cond_decide, has_val k h, optb, Int.toNat_natCast]
    rw [if_pos (by omega), decide_eq_true (show 0 ≤ (f : Int) ∧ (f : Int) < 256 by omega), Bool.true_and]
    cases hf : mem a0 a1 a2 a3 f with
    | true => exact .inr ⟨f, Nat.le_refl _, by omega, rfl, hf, fun i h1 h2 => by omega⟩
    | false =>
      rw [cond_false, w64 (n := (f : Int) + 1) (by omega) (by omega), show (f : Int) + 1 = ((f + 1 : Nat) : Int) by omega]
      rcases ih j (f + 1) (by omega) (by omega) with ⟨h1, h2⟩ | ⟨r, h1, h2, h3, h4, h5⟩
      · exact .inl ⟨h1, fun i hi => by
          by_cases hif : i = f
          · subst hif; exact hf
          · exact h2 i (by omega)⟩
      · exact .inr ⟨r, by omega, h2, h3, h4, fun i hi1 hi2 => by
          by_cases hif : i = f
          · subst hif; exact hf
          · exact h5 i (by omega) hi2⟩
theorem next_val (k : Nat) {a0 a1 a2 a3 : Int} (h : U4 a0 a1 a2 a3) (n : Int) (hk : 256 < k) (hn : n ≤ 100000) :
    (nums_Set_Next k a0 a1 a2 a3 n = some (-1) ∧ ∀ i : Nat, n ≤ i → mem a0 a1 a2 a3 i = false) ∨
    ∃ r : Nat, n ≤ r ∧ r < 256 ∧ nums_Set_Next k a0 a1 a2 a3 n = some (r : Int) ∧ mem a0 a1 a2 a3 r = true ∧ ∀ i : Nat, n ≤ i → i < r → mem a0 a1 a2 a3 i = false := by
  have e : (bif decide ((0 : Int) > n) then (0 : Int) else n) = (n.toNat : Int) := by
    rw [Bool.cond_decide]; split <;> omega
  have e2 : nums_Set_Next k a0 a1 a2 a3 n = nums_Set_Next_l0 (fun v => some v) (some (-1)) k a0 a1 a2 a3 k (n.toNat : Int) := by unfold nums_Set_Next; rw [e]
  rw [e2]
  rcases next_loop (fun v => some v) (some (-1)) k h (256 - n.toNat) k n.toNat rfl (by omega) with ⟨h1, h2⟩ | ⟨r, h1, h2, h3, h4, h5⟩
  · exact .inl ⟨h1, fun i hi => h2 i (by omega)⟩
  · exact .inr ⟨r, by omega, h2, h3, h4, fun i hi1 hi2 => h5 i (by omega) hi2⟩
/-! how many there are -/
def cntR (g : Nat → Bool) : Nat → Nat → Nat
  | _, 0 => 0
  | lo, n + 1 => (g lo).toNat + cntR g (lo + 1) n
theorem cntR_add (g : Nat → Bool) : ∀ (m lo n : Nat), cntR g lo (m + n) = cntR g lo m + cntR g (lo + m) n
  | 0, lo, n => by simp [cntR]
  | m + 1, lo, n => by
    rw [show m + 1 + n = (m + n) + 1 by omega]
    simp only [cntR]
    rw [cntR_add g m (lo + 1) n, show lo + 1 + m = lo + (m + 1) by omega]; omega
theorem cntR_congr {g g' : Nat → Bool} : ∀ (n lo lo' : Nat), (∀ i, i < n → g (lo + i) = g' (lo' + i)) → cntR g lo n = cntR g' lo' n
  | 0, _, _, _ => rfl
  | n + 1, lo, lo', h => by
    simp only [cntR]
    rw [show g lo = g' lo' from h 0 (by omega), cntR_congr n (lo + 1) (lo' + 1) (fun i hi => by have := h (i + 1) (by omega); rw [show lo + 1 + i = lo + (i + 1) by omega, show lo' + 1 + i = lo' + (i + 1) by omega]; exact this)]
theorem cntR_none {g : Nat → Bool} : ∀ (n lo : Nat), (∀ i, lo ≤ i → i < lo + n → g i = false) → cntR g lo n = 0
  | 0, _, _ => rfl
  | n + 1, lo, h => by
    simp only [cntR]
    rw [h lo (by omega) (by omega), cntR_none n (lo + 1) (fun i h1 h2 => h i (by omega) (by omega))]; rfl
theorem cntR_le (g : Nat → Bool) : ∀ (n lo : Nat), cntR g lo n ≤ n
  | 0, _ => Nat.le_refl _
  | n + 1, lo => by
    simp only [cntR]
    have := cntR_le g n (lo + 1)
    have : (g lo).toNat ≤ 1 := Bool.toNat_le _
    omega
def pcr : Nat → Nat → Nat
  | 0, _ => 0
  | n + 1, w => w % 2 + pcr n (w / 2)
theorem pcr_cnt : ∀ (n w : Nat), pcr n w = cntR w.testBit 0 n
  | 0, w => rfl
  | n + 1, w => by
    simp only [pcr, cntR]
    rw [pcr_cnt n (w / 2), cntR_congr (g := w.testBit) (g' := (w / 2).testBit) n (0 + 1) 0 (fun i hi => by rw [Nat.testBit_div_two]; congr 1; omega)]
    congr 1
    rw [Nat.testBit_zero]
    by_cases h : w % 2 = 1
    · simp [h]
    · have : w % 2 = 0 := by omega
      simp [this]
theorem pcr_less : ∀ (n w : Nat), w ≠ 0 → w < 2 ^ n → pcr n (w &&& (w - 1)) + 1 = pcr n w
  | 0, w, h0, h1 => by simp at h1; omega
  | n + 1, w, h0, h1 => by
    have hd : (w &&& (w - 1)) / 2 = w / 2 &&& (w - 1) / 2 := Nat.and_div_two
    have hp : 2 ^ (n + 1) = 2 * 2 ^ n := by rw [Nat.pow_succ]; omega
    simp only [pcr]
    rw [hd]
    by_cases hw : w % 2 = 1
    · have e1 : (w - 1) / 2 = w / 2 := by omega
      have e2 : (w &&& (w - 1)) % 2 = 0 := by
        have := Nat.and_mod_two_eq_one (a := w) (b := w - 1)
        have h2 : ¬ ((w &&& (w - 1)) % 2 = 1) := fun h => by have := this.1 h; omega
        omega
      rw [e1, e2, Nat.and_self]; omega
    · have e1 : (w - 1) / 2 = w / 2 - 1 := by omega
      have e2 : (w &&& (w - 1)) % 2 = 0 := by
        have := Nat.and_mod_two_eq_one (a := w) (b := w - 1)
        have h2 : ¬ ((w &&& (w - 1)) % 2 = 1) := fun h => by have := this.1 h; omega
        omega
      have := pcr_less n (w / 2) (by omega) (by omega)
      rw [e1, e2]; omega
theorem pcr_le : ∀ (n w : Nat), pcr n w ≤ n := fun n w => by rw [pcr_cnt]; exact cntR_le _ _ _
theorem count_word {R : Type} (e0 : Int → Option R) (k : Nat) (m : Nat) : ∀ (j : Nat) (n : Int) (w : Nat), w < 2 ^ 64 → pcr 64 w = m → m < j → 0 ≤ n → n + m ≤ 100000 →
    nums_Set_Count_l2 e0 k j n (w : Int) = e0 (n + m) := by
  induction m with
  | zero =>
    intro j n w hw hm hj h0 hn
    obtain ⟨j, rfl⟩ : ∃ q, j = q + 1 := ⟨j - 1, by omega⟩
    have hw0 : w = 0 := by
      by_cases h : w = 0
      · exact h
      · have := pcr_less 64 w h hw; omega
    subst hw0
    show nums_Set_Count_l2s _ e0 k n 0 = _
    simp only [nums_Set_Count_l2s, ← decide_not, Bool.cond_decide]
    rw [if_neg (by simp)]; simp
  | succ m ih =>
    intro j n w hw hm hj h0 hn
    obtain ⟨j, rfl⟩ : ∃ q, j = q + 1 := ⟨j - 1, by omega⟩
    have h64 : (2 : Nat) ^ 64 = 18446744073709551616 := by decide
    have hw0 : w ≠ 0 := fun h => by subst h; rw [pcr_cnt, cntR_none 64 0 (fun i _ _ => Nat.zero_testBit i)] at hm; omega
    have hl := pcr_less 64 w hw0 hw
    have hand : w &&& (w - 1) ≤ w := Nat.and_le_left
    have hrec := ih j (n + 1) (w &&& (w - 1)) (by omega) (by omega) (by omega) (by omega) (by omega)
    show nums_Set_Count_l2s _ e0 k n (w : Int) = _
    simp only [nums_Set_Count_l2s, ← decide_not, Bool.cond_decide]
    have e1 : IntKind.u64.wrap ((w : Int) - 1) = ((w - 1 : Nat) : Int) := by
      rw [show (w : Int) - 1 = ((w - 1 : Nat) : Int) by omega]; exact u64_wrap (by omega)
    rw [if_pos (by omega), e1, u_and (by unfold UU; omega) (by unfold UU; omega), Int.toNat_natCast, Int.toNat_natCast, w64 (n := n + 1) (by omega) (by omega), hrec, show n + 1 + (m : Int) = n + ((m + 1 : Nat) : Int) by omega]
theorem count_val (k : Nat) {a0 a1 a2 a3 : Int} (h : U4 a0 a1 a2 a3) (hk : 70 < k) : nums_Set_Count k a0 a1 a2 a3 = some ((cntR (mem a0 a1 a2 a3) 0 256 : Nat) : Int) := by
  have h64 : (2 : Nat) ^ 64 = 18446744073709551616 := by decide
  have word : ∀ {R : Type} (e0 : Int → Option R) (n w : Int), UU w → 0 ≤ n → n ≤ 1000 → nums_Set_Count_l2 e0 k k n w = e0 (n + (pcr 64 w.toNat : Nat)) := fun {R} e0 n w hw h0 h1 => by
    have hp := pcr_le 64 w.toNat
    have e1 : w = (w.toNat : Int) := by unfold UU at hw; omega
    conv => lhs; rw [e1]
    exact count_word e0 k _ k n w.toNat (by unfold UU at hw; omega) rfl (by omega) h0 (by omega)
  have p0 := pcr_le 64 a0.toNat
  have p1 := pcr_le 64 a1.toNat
  have p2 := pcr_le 64 a2.toNat
  have p3 := pcr_le 64 a3.toNat
  have e0 : nums_Set_Count k a0 a1 a2 a3 = nums_Set_Count_l0 (fun v => some v) k a0 a1 a2 a3 k 0 0 := rfl
  rw [e0]
  have go : ∀ j : Nat, nums_Set_Count_l0 (fun v => some v) k a0 a1 a2 a3 (j + 1 + 1 + 1 + 1 + 1) 0 0 = some (0 + ((pcr 64 a0.toNat : Nat) : Int) + ((pcr 64 a1.toNat : Nat) : Int) + ((pcr 64 a2.toNat : Nat) : Int) + ((pcr 64 a3.toNat : Nat) : Int)) := fun j => by
    have s0 : ∀ (j : Nat) (n : Int), 0 ≤ n → n ≤ 1000 → nums_Set_Count_l0 (fun v => some v) k a0 a1 a2 a3 (j + 1) n 0 = nums_Set_Count_l0 (fun v => some v) k a0 a1 a2 a3 j (n + (pcr 64 a0.toNat : Nat)) 1 := fun j n h0 h1 => by
      show nums_Set_Count_l0s (nums_Set_Count_l0 (fun v => some v) k a0 a1 a2 a3 j) (fun v => some v) k a0 a1 a2 a3 n 0 = _
      simp only [nums_Set_Count_l0s, Bool.cond_decide, nums_Set_Count_j1, nums_Set_Count_k0, nums_Set_Count_j3]
      rw [if_pos (by decide), if_pos (by decide), word _ _ _ h.h0 h0 h1, w64 (n := (0 : Int) + 1) (by decide) (by decide)]; rfl
    have s1 : ∀ (j : Nat) (n : Int), 0 ≤ n → n ≤ 1000 → nums_Set_Count_l0 (fun v => some v) k a0 a1 a2 a3 (j + 1) n 1 = nums_Set_Count_l0 (fun v => some v) k a0 a1 a2 a3 j (n + (pcr 64 a1.toNat : Nat)) 2 := fun j n h0 h1 => by
      show nums_Set_Count_l0s (nums_Set_Count_l0 (fun v => some v) k a0 a1 a2 a3 j) (fun v => some v) k a0 a1 a2 a3 n 1 = _
      simp only [nums_Set_Count_l0s, Bool.cond_decide, nums_Set_Count_j1, nums_Set_Count_k0, nums_Set_Count_j3]
      rw [if_pos (by decide), if_neg (by decide), if_pos (by decide), word _ _ _ h.h1 h0 h1, w64 (n := (1 : Int) + 1) (by decide) (by decide)]; rfl
    have s2 : ∀ (j : Nat) (n : Int), 0 ≤ n → n ≤ 1000 → nums_Set_Count_l0 (fun v => some v) k a0 a1 a2 a3 (j + 1) n 2 = nums_Set_Count_l0 (fun v => some v) k a0 a1 a2 a3 j (n + (pcr 64 a2.toNat : Nat)) 3 := fun j n h0 h1 => by
      show nums_Set_Count_l0s (nums_Set_Count_l0 (fun v => some v) k a0 a1 a2 a3 j) (fun v => some v) k a0 a1 a2 a3 n 2 = _
      simp only [nums_Set_Count_l0s, Bool.cond_decide, nums_Set_Count_j1, nums_Set_Count_k0, nums_Set_Count_j3]
      rw [if_pos (by decide), if_neg (by decide), if_neg (by decide), if_pos (by decide), word _ _ _ h.h2 h0 h1, w64 (n := (2 : Int) + 1) (by decide) (by decide)]; rfl
    have s3 : ∀ (j : Nat) (n : Int), 0 ≤ n → n ≤ 1000 → nums_Set_Count_l0 (fun v => some v) k a0 a1 a2 a3 (j + 1) n 3 = nums_Set_Count_l0 (fun v => some v) k a0 a1 a2 a3 j (n + (pcr 64 a3.toNat : Nat)) 4 := fun j n h0 h1 => by
      show nums_Set_Count_l0s (nums_Set_Count_l0 (fun v => some v) k a0 a1 a2 a3 j) (fun v => some v) k a0 a1 a2 a3 n 3 = _
      simp only [nums_Set_Count_l0s, Bool.cond_decide, nums_Set_Count_j1, nums_Set_Count_k0, nums_Set_Count_j3]
      rw [if_pos (by decide), if_neg (by decide), if_neg (by decide), if_neg (by decide), if_pos (by decide), word _ _ _ h.h3 h0 h1, w64 (n := (3 : Int) + 1) (by decide) (by decide)]; rfl
    rw [s0 _ _ (by omega) (by omega), s1 _ _ (by omega) (by omega), s2 _ _ (by omega) (by omega), s3 _ _ (by omega) (by omega)]
    show nums_Set_Count_l0s _ (fun v => some v) k a0 a1 a2 a3 _ 4 = _
    simp only [nums_Set_Count_l0s, Bool.cond_decide]
    rw [if_neg (by decide)]
  obtain ⟨k', hk'⟩ : ∃ q, k = q + 1 + 1 + 1 + 1 + 1 := ⟨k - 5, by omega⟩
  have g := go k'
  rw [← hk'] at g
  rw [g]
  have hc : cntR (mem a0 a1 a2 a3) 0 256 = pcr 64 a0.toNat + (pcr 64 a1.toNat + (pcr 64 a2.toNat + pcr 64 a3.toNat)) := by
    have c0 : cntR (mem a0 a1 a2 a3) 0 64 = pcr 64 a0.toNat := (cntR_congr 64 0 0 (fun i hi => by unfold mem; rw [if_pos (by omega)])).trans (pcr_cnt 64 _).symm
    have c1 : cntR (mem a0 a1 a2 a3) (0 + 64) 64 = pcr 64 a1.toNat := (cntR_congr 64 (0 + 64) 0 (fun i hi => by unfold mem; rw [if_neg (by omega), if_pos (by omega), show 0 + 64 + i - 64 = 0 + i by omega])).trans (pcr_cnt 64 _).symm
    have c2 : cntR (mem a0 a1 a2 a3) (0 + 64 + 64) 64 = pcr 64 a2.toNat := (cntR_congr 64 (0 + 64 + 64) 0 (fun i hi => by unfold mem; rw [if_neg (by omega), if_neg (by omega), if_pos (by omega), show 0 + 64 + 64 + i - 128 = 0 + i by omega])).trans (pcr_cnt 64 _).symm
    have c3 : cntR (mem a0 a1 a2 a3) (0 + 64 + 64 + 64) 64 = pcr 64 a3.toNat := (cntR_congr 64 (0 + 64 + 64 + 64) 0 (fun i hi => by unfold mem; rw [if_neg (by omega), if_neg (by omega), if_neg (by omega), if_pos (by omega), show 0 + 64 + 64 + 64 + i - 192 = 0 + i by omega])).trans (pcr_cnt 64 _).symm
    have e := cntR_add (mem a0 a1 a2 a3) 64 0 (64 + (64 + 64))
    rw [cntR_add (mem a0 a1 a2 a3) 64 (0 + 64) (64 + 64), cntR_add (mem a0 a1 a2 a3) 64 (0 + 64 + 64) 64, c0, c1, c2, c3] at e
    exact e
  rw [hc]
  generalize pcr 64 a0.toNat = q0
  generalize pcr 64 a1.toNat = q1
  generalize pcr 64 a2.toNat = q2
  generalize pcr 64 a3.toNat = q3
  refine congrArg some ?_
  omega
/-! ### all numbers of a set, rising -/
def ml (g : Nat → Bool) : Nat → Nat → List Int
  | _, 0 => []
  | lo, n + 1 => if g lo then (lo : Int) :: ml g (lo + 1) n else ml g (lo + 1) n
theorem ml_none (g : Nat → Bool) : ∀ (n lo : Nat), (∀ i, lo ≤ i → i < lo + n → g i = false) → ml g lo n = []
  | 0, _, _ => rfl
  | n + 1, lo, h => by
    show (if g lo then _ else _) = _
    rw [h lo (by omega) (by omega), if_neg (by decide)]
    exact ml_none g n (lo + 1) fun i h1 h2 => h i (by omega) (by omega)
theorem ml_add (g : Nat → Bool) : ∀ (m lo n : Nat), ml g lo (m + n) = ml g lo m ++ ml g (lo + m) n
  | 0, lo, n => by rw [Nat.zero_add, Nat.add_zero]; rfl
  | m + 1, lo, n => by
    rw [show m + 1 + n = (m + n) + 1 by omega]
    show (if g lo then _ else _) = (if g lo then _ else _) ++ _
    rw [ml_add g m (lo + 1) n, show lo + 1 + m = lo + (m + 1) by omega]
    cases g lo <;> rfl
theorem ml_len (g : Nat → Bool) : ∀ (n lo : Nat), (ml g lo n).length ≤ n
  | 0, _ => Nat.le_refl _
  | n + 1, lo => by
    show (if g lo then _ else _ : List Int).length ≤ _
    have := ml_len g n (lo + 1)
    split
    · rw [List.length_cons]; omega
    · omega
theorem ml_mem (g : Nat → Bool) (x : Int) : ∀ (n lo : Nat), x ∈ ml g lo n ↔ ∃ i : Nat, x = i ∧ lo ≤ i ∧ i < lo + n ∧ g i = true
  | 0, lo => ⟨fun h => (by cases h), fun ⟨i, _, h1, h2, _⟩ => (by omega)⟩
  | n + 1, lo => by
    have ih := ml_mem g x n (lo + 1)
    have e : ml g lo (n + 1) = if g lo then (lo : Int) :: ml g (lo + 1) n else ml g (lo + 1) n := rfl
    rw [e]
    constructor
    · intro h
      split at h
      · rename_i hg
        rcases List.mem_cons.1 h with h | h
        · exact ⟨lo, h, Nat.le_refl _, by omega, hg⟩
        · obtain ⟨i, h1, h2, h3, h4⟩ := ih.1 h
          exact ⟨i, h1, by omega, by omega, h4⟩
      · obtain ⟨i, h1, h2, h3, h4⟩ := ih.1 h
        exact ⟨i, h1, by omega, by omega, h4⟩
    · rintro ⟨i, h1, h2, h3, h4⟩
      by_cases ei : i = lo
      · rw [← ei, if_pos h4, h1]; exact List.mem_cons_self ..
      · have := ih.2 ⟨i, h1, by omega, by omega, h4⟩
        split
        · exact List.mem_cons_of_mem _ this
        · exact this
theorem walk_val (k : Nat) (hk : 300 < k) {a0 a1 a2 a3 : Int} (h : U4 a0 a1 a2 a3) (m : Nat) : ∀ (lo j : Nat) (cur : Int), 256 - lo = m → m < j → lo ≤ 256 →
    (cur = -1 ∧ (∀ i : Nat, lo ≤ i → mem a0 a1 a2 a3 i = false) ∨ ∃ r : Nat, cur = r ∧ lo ≤ r ∧ r < 256 ∧ mem a0 a1 a2 a3 r = true ∧ ∀ i : Nat, lo ≤ i → i < r → mem a0 a1 a2 a3 i = false) →
    nums_Set_List_walk k a0 a1 a2 a3 j cur = some (ml (mem a0 a1 a2 a3) lo (256 - lo)) := by
  induction m using Nat.strongRecOn with
  | ind m ih =>
    intro lo j cur hm hj hlo hc
    obtain ⟨j, rfl⟩ : ∃ q, j = q + 1 := ⟨j - 1, by omega⟩
    show (bif decide (cur < (0 : Int)) then some [] else bif decide (cur < (256 : Int)) then optb (nums_Set_Next k a0 a1 a2 a3 (cur + 1)) fun m => optb (nums_Set_List_walk k a0 a1 a2 a3 j m) fun l => some (cur :: l) else none) = _
    rcases hc with ⟨rfl, hno⟩ | ⟨r, rfl, h1, h2, h3, h4⟩
    · rw [cond_t (decide_eq_true (by decide)), ml_none _ _ _ (fun i hi _ => hno i hi)]
    · have hsplit : ml (mem a0 a1 a2 a3) lo (256 - lo) = (r : Int) :: ml (mem a0 a1 a2 a3) (r + 1) (256 - (r + 1)) := by
        rw [show 256 - lo = (r - lo) + ((256 - (r + 1)) + 1) by omega, ml_add, ml_none _ (r - lo) lo (fun i a b => h4 i a (by omega)), show lo + (r - lo) = r by omega]
        show [] ++ (if mem a0 a1 a2 a3 r then _ else _) = _
        rw [if_pos h3]; rfl
      rw [cond_f (decide_eq_false (by omega)), cond_t (decide_eq_true (by omega)), hsplit]
      rcases next_val k h ((r : Int) + 1) (by omega) (by omega) with ⟨g1, g2⟩ | ⟨r', g1, g2, g3, g4, g5⟩
      · rw [g1, optb_some, ih (256 - (r + 1)) (by omega) (r + 1) j (-1) rfl (by omega) (by omega) (.inl ⟨rfl, fun i hi => g2 i (by omega)⟩), optb_some]
      · rw [g3, optb_some, ih (256 - (r + 1)) (by omega) (r + 1) j (r' : Int) rfl (by omega) (by omega) (.inr ⟨r', rfl, by omega, g2, g4, fun i a b => g5 i (by omega) b⟩), optb_some]
theorem list_val (k : Nat) (hk : 300 < k) {a0 a1 a2 a3 : Int} (h : U4 a0 a1 a2 a3) : nums_Set_List k a0 a1 a2 a3 = some ((ml (mem a0 a1 a2 a3) 0 256).isEmpty, ml (mem a0 a1 a2 a3) 0 256) := by
  unfold nums_Set_List
  by_cases hz : a0 = 0 ∧ a1 = 0 ∧ a2 = 0 ∧ a3 = 0
  · obtain ⟨rfl, rfl, rfl, rfl⟩ := hz
    rw [ml_none _ 256 0 (fun i _ _ => mem_zero i)]; rfl
  · have hzb : (decide (a0 = (0 : Int)) && (decide (a1 = (0 : Int)) && (decide (a2 = (0 : Int)) && decide (a3 = (0 : Int))))) = false := by
      rw [Bool.eq_false_iff]
      intro h
      simp only [Bool.and_eq_true, decide_eq_true_eq] at h
      exact hz h
    rw [hzb, cond_false]
    have hlen := ml_len (mem a0 a1 a2 a3) 256 0
    rcases next_val k h 0 (by omega) (by decide) with ⟨g1, g2⟩ | ⟨r, g1, g2, g3, g4, g5⟩
    · rw [g1, optb_some, walk_val k hk h 256 0 k (-1) rfl (by omega) (by omega) (.inl ⟨rfl, fun i hi => g2 i (by omega)⟩), optb_some, cond_t (decide_eq_true (by show (ml _ 0 256).length ≤ 1000; omega))]
    · rw [g3, optb_some, walk_val k hk h 256 0 k (r : Int) rfl (by omega) (by omega) (.inr ⟨r, rfl, by omega, g2, g4, fun i a b => g5 i (by omega) b⟩), optb_some, cond_t (decide_eq_true (by show (ml _ 0 256).length ≤ 1000; omega))]
theorem ints_same (k : Nat) (a b : Bool) (l : List Int) (hl : l.length ≤ 1000) (hk : 1001 < k) : corbellaw01_ints k a l b l = some true := by
  unfold corbellaw01_ints
  rw [decide_eq_true rfl, Bool.not_true, cond_false]
  have go : ∀ (m i j : Nat), l.length - i = m → i ≤ l.length → m < j → corbellaw01_ints_l0 (fun v => some v) (some true) k l l j (i : Int) = some true := by
    intro m
    induction m with
    | zero =>
      intro i j hm hi hj
      obtain ⟨j, rfl⟩ : ∃ q, j = q + 1 := ⟨j - 1, by omega⟩
      show corbellaw01_ints_l0s _ _ _ _ _ _ _ = _
      unfold corbellaw01_ints_l0s
      rw [lenI_eq, cond_f (decide_eq_false (by omega))]
    | succ m ih =>
      intro i j hm hi hj
      obtain ⟨j, rfl⟩ : ∃ q, j = q + 1 := ⟨j - 1, by omega⟩
      show corbellaw01_ints_l0s _ _ _ _ _ _ _ = _
      unfold corbellaw01_ints_l0s
      rw [lenI_eq, cond_t (decide_eq_true (by omega)), cond_t (decide_eq_true (by omega)), show (i : Int).toNat = i from rfl, List.getElem?_eq_getElem (by omega), optb_some, cond_t (decide_eq_true (by omega)), optb_some, decide_eq_true rfl, Bool.not_true, cond_false, w64 (by omega) (by omega), show (i : Int) + 1 = ((i + 1 : Nat) : Int) by omega]
      exact ih (i + 1) j (by omega) (by omega) (by omega)
  exact go l.length 0 k (by omega) (by omega) (by omega)
theorem words_eq {a b : Int} (ha : UU a) (hb : UU b) (h : ∀ i, i < 64 → a.toNat.testBit i = b.toNat.testBit i) : a = b := by
  have hn : a.toNat = b.toNat := by
    refine Nat.eq_of_testBit_eq fun i => ?_
    by_cases hi : i < 64
    · exact h i hi
    · have hp : (2 : Nat) ^ 64 ≤ 2 ^ i := Nat.pow_le_pow_right (by decide) (by omega)
      have h64 : (2 : Nat) ^ 64 = 18446744073709551616 := by decide
      unfold UU at ha hb
      rw [Nat.testBit_lt_two_pow (by omega), Nat.testBit_lt_two_pow (by omega)]
  unfold UU at ha hb
  omega
theorem sets_eq {a0 a1 a2 a3 b0 b1 b2 b3 : Int} (ha : U4 a0 a1 a2 a3) (hb : U4 b0 b1 b2 b3) (h : ∀ i, mem a0 a1 a2 a3 i = mem b0 b1 b2 b3 i) : a0 = b0 ∧ a1 = b1 ∧ a2 = b2 ∧ a3 = b3 := by
  refine ⟨words_eq ha.h0 hb.h0 fun i hi => ?_, words_eq ha.h1 hb.h1 fun i hi => ?_, words_eq ha.h2 hb.h2 fun i hi => ?_, words_eq ha.h3 hb.h3 fun i hi => ?_⟩
  · have := h i
    unfold mem at this
    rwa [if_pos hi, if_pos hi] at this
  · have := h (64 + i)
    unfold mem at this
    rwa [if_neg (by omega), if_pos (by omega), if_neg (by omega), if_pos (by omega), show 64 + i - 64 = i by omega] at this
  · have := h (128 + i)
    unfold mem at this
    rwa [if_neg (by omega), if_neg (by omega), if_pos (by omega), if_neg (by omega), if_neg (by omega), if_pos (by omega), show 128 + i - 128 = i by omega] at this
  · have := h (192 + i)
    unfold mem at this
    rwa [if_neg (by omega), if_neg (by omega), if_neg (by omega), if_pos (by omega), if_neg (by omega), if_neg (by omega), if_neg (by omega), if_pos (by omega), show 192 + i - 192 = i by omega] at this
/-! ### the document's set -/
theorem drop_cons {α : Type} {L : List α} {i : Nat} {p : α} {l : List α} (h : L.drop i = p :: l) : L[i]? = some p ∧ i < L.length ∧ L.drop (i + 1) = l := by
  have hi : i < L.length := by
    rcases Nat.lt_or_ge i L.length with h1 | h1
    · exact h1
    · rw [List.drop_eq_nil_of_le h1] at h; cases h
  rw [List.drop_eq_getElem_cons hi] at h
  injection h with h1 h2
  exact ⟨by rw [List.getElem?_eq_getElem hi, h1], hi, h2⟩
theorem rhas_go (k : Nat) (n : Int) (L : List Int) (hL : L.length ≤ 100000) (l : List Int) : ∀ (i j : Nat), L.drop i = l → l.length < j →
    corbelref01_Has_l0 (fun v => some v) (some false) k n L j (i : Int) = some (decide (n ∈ l)) := by
  induction l with
  | nil =>
    intro i j hd hj
    obtain ⟨j, rfl⟩ : ∃ q, j = q + 1 := ⟨j - 1, by omega⟩
    have : L.length ≤ i := List.drop_eq_nil_iff.1 hd
    show corbelref01_Has_l0s _ _ _ _ _ _ _ = _
    unfold corbelref01_Has_l0s
    rw [lenI_eq, cond_f (decide_eq_false (by omega))]; rfl
  | cons x l ih =>
    intro i j hd hj
    rw [List.length_cons] at hj
    obtain ⟨j, rfl⟩ : ∃ q, j = q + 1 := ⟨j - 1, by omega⟩
    obtain ⟨h1, h2, h3⟩ := drop_cons hd
    show corbelref01_Has_l0s _ _ _ _ _ _ _ = _
    unfold corbelref01_Has_l0s
    rw [lenI_eq, cond_t (decide_eq_true (by omega)), cond_t (decide_eq_true (by omega)), show (i : Int).toNat = i from rfl, h1, optb_some]
    by_cases e : x = n
    · rw [cond_t (decide_eq_true e), decide_eq_true (by rw [e]; exact List.mem_cons_self ..)]
    · rw [cond_f (decide_eq_false e), w64 (by omega) (by omega), show (i : Int) + 1 = ((i + 1 : Nat) : Int) by omega, ih (i + 1) j h3 (by omega)]
      congr 1
      rw [decide_eq_decide, List.mem_cons]
      exact ⟨.inr, fun h => h.resolve_left (Ne.symm e)⟩
theorem rhas_val (k : Nat) (c : Bool) (L : List Int) (n : Int) (hL : L.length < k) (hL' : L.length ≤ 100000) : corbelref01_Has k c L n = some (decide (n ∈ L)) := rhas_go k n L hL' L 0 k rfl hL
theorem rwo_go (k : Nat) (n : Int) (L : List Int) (hL : L.length ≤ 100000) (l : List Int) : ∀ (i j : Nat) (acc : List Int), L.drop i = l → l.length < j → acc.length ≤ i →
    corbelref01_Without_l0 (fun out => some (true, out)) k n L j (i : Int) acc = some (true, acc ++ l.filter fun x => !decide (x = n)) := by
  induction l with
  | nil =>
    intro i j acc hd hj ha
    obtain ⟨j, rfl⟩ : ∃ q, j = q + 1 := ⟨j - 1, by omega⟩
    have : L.length ≤ i := List.drop_eq_nil_iff.1 hd
    show corbelref01_Without_l0s _ _ _ _ _ _ _ = _
    unfold corbelref01_Without_l0s
    rw [lenI_eq, cond_f (decide_eq_false (by omega)), List.filter_nil, List.append_nil]
  | cons x l ih =>
    intro i j acc hd hj ha
    rw [List.length_cons] at hj
    obtain ⟨j, rfl⟩ : ∃ q, j = q + 1 := ⟨j - 1, by omega⟩
    obtain ⟨h1, h2, h3⟩ := drop_cons hd
    have hw : wrap64 ((i : Int) + 1) = ((i + 1 : Nat) : Int) := by rw [w64 (by omega) (by omega)]; omega
    show corbelref01_Without_l0s _ _ _ _ _ _ _ = _
    unfold corbelref01_Without_l0s
    rw [lenI_eq, cond_t (decide_eq_true (by omega)), cond_t (decide_eq_true (by omega)), show (i : Int).toNat = i from rfl, h1, optb_some]
    by_cases e : x = n
    · rw [decide_eq_true e, Bool.not_true, cond_false]
      unfold corbelref01_Without_j1b
      rw [hw]
      refine (ih (i + 1) j acc h3 (by omega) (by omega)).trans ?_
      congr 3
      rw [List.filter_cons, decide_eq_true e]; rfl
    · rw [decide_eq_false e, Bool.not_false, cond_true, cond_t (decide_eq_true (by omega)), optb_some, cond_t (decide_eq_true (by show acc.length + 1 ≤ _; omega))]
      unfold corbelref01_Without_j1
      rw [hw]
      refine (ih (i + 1) j (acc ++ [x]) h3 (by omega) (by rw [List.length_append]; show acc.length + 1 ≤ _; omega)).trans ?_
      rw [List.append_assoc]
      congr 3
      rw [List.filter_cons, decide_eq_false e]; rfl
theorem rwo_val (k : Nat) (c : Bool) (L : List Int) (n : Int) (hL : L.length < k) (hL' : L.length ≤ 100000) : corbelref01_Without k c L n = some (true, L.filter fun x => !decide (x = n)) := by
  unfold corbelref01_Without
  exact rwo_go k n L hL' L 0 k [] rfl hL (Nat.le_refl 0)
def ins (n : Int) : List Int → List Int
  | [] => [n]
  | x :: l => if n < x then n :: x :: l else x :: ins n l
theorem rwi_put (k : Nat) (n : Int) (L : List Int) (hL : L.length ≤ 100000) (e0 : Bool → List Int → Option (Bool × List Int)) (l : List Int) : ∀ (i j : Nat) (acc : List Int), L.drop i = l → l.length < j → acc.length ≤ i + 1 →
    corbelref01_With_l1 e0 k n L j true (i : Int) acc = e0 true (acc ++ l) := by
  induction l with
  | nil =>
    intro i j acc hd hj ha
    obtain ⟨j, rfl⟩ : ∃ q, j = q + 1 := ⟨j - 1, by omega⟩
    have : L.length ≤ i := List.drop_eq_nil_iff.1 hd
    show corbelref01_With_l1s _ _ _ _ _ _ _ _ = _
    unfold corbelref01_With_l1s
    rw [lenI_eq, cond_f (decide_eq_false (by omega)), List.append_nil]
  | cons x l ih =>
    intro i j acc hd hj ha
    rw [List.length_cons] at hj
    obtain ⟨j, rfl⟩ : ∃ q, j = q + 1 := ⟨j - 1, by omega⟩
    obtain ⟨h1, h2, h3⟩ := drop_cons hd
    have hw : wrap64 ((i : Int) + 1) = ((i + 1 : Nat) : Int) := by rw [w64 (by omega) (by omega)]; omega
    show corbelref01_With_l1s _ _ _ _ _ _ _ _ = _
    unfold corbelref01_With_l1s
    rw [lenI_eq, cond_t (decide_eq_true (by omega)), Bool.not_true, cond_false]
    unfold corbelref01_With_j2 corbelref01_With_k4 corbelref01_With_j3b corbelref01_With_j4 corbelref01_With_k3
    rw [cond_false, cond_t (decide_eq_true (by omega)), show (i : Int).toNat = i from rfl, h1, optb_some, cond_t (decide_eq_true (by show acc.length + 1 ≤ _; omega)), hw]
    refine (ih (i + 1) j (acc ++ [x]) h3 (by omega) (by rw [List.length_append]; show acc.length + 1 ≤ _; omega)).trans ?_
    rw [List.append_assoc]; rfl
theorem rwi_go (k : Nat) (n : Int) (L : List Int) (hL : L.length ≤ 100000) (e0 : Bool → List Int → Option (Bool × List Int)) (r : List Int → Option (Bool × List Int)) (h0 : ∀ acc : List Int, acc.length ≤ 100000 → e0 false acc = r (acc ++ [n])) (h1 : ∀ acc, e0 true acc = r acc) (l : List Int) : ∀ (i j : Nat) (acc : List Int), L.drop i = l → l.length < j → acc.length ≤ i → i ≤ L.length →
    corbelref01_With_l1 e0 k n L j false (i : Int) acc = r (acc ++ ins n l) := by
  induction l with
  | nil =>
    intro i j acc hd hj ha hi
    obtain ⟨j, rfl⟩ : ∃ q, j = q + 1 := ⟨j - 1, by omega⟩
    have : L.length ≤ i := List.drop_eq_nil_iff.1 hd
    show corbelref01_With_l1s _ _ _ _ _ _ _ _ = _
    unfold corbelref01_With_l1s
    rw [lenI_eq, cond_f (decide_eq_false (by omega)), h0 _ (by omega)]; rfl
  | cons x l ih =>
    intro i j acc hd hj ha hi
    rw [List.length_cons] at hj
    obtain ⟨j, rfl⟩ : ∃ q, j = q + 1 := ⟨j - 1, by omega⟩
    obtain ⟨g1, g2, g3⟩ := drop_cons hd
    have hw : wrap64 ((i : Int) + 1) = ((i + 1 : Nat) : Int) := by rw [w64 (by omega) (by omega)]; omega
    show corbelref01_With_l1s _ _ _ _ _ _ _ _ = _
    unfold corbelref01_With_l1s
    rw [lenI_eq, cond_t (decide_eq_true (by omega)), Bool.not_false, cond_true, cond_t (decide_eq_true (by omega)), show (i : Int).toNat = i from rfl, g1, optb_some]
    by_cases c : n < x
    · have e : ins n (x :: l) = n :: x :: l := by show (if n < x then _ else _) = _; rw [if_pos c]
      rw [decide_eq_true c, e]
      unfold corbelref01_With_j2 corbelref01_With_k2 corbelref01_With_j3 corbelref01_With_j4 corbelref01_With_k3
      rw [cond_true, cond_t (decide_eq_true (by show acc.length + 1 ≤ _; omega)), cond_t (decide_eq_true (by omega)), show (i : Int).toNat = i from rfl, g1, optb_some, cond_t (decide_eq_true (by rw [List.length_append]; show acc.length + 1 + 1 ≤ _; omega)), hw]
      refine (rwi_put k n L hL e0 l (i + 1) j ((acc ++ [n]) ++ [x]) g3 (by omega) (by rw [List.length_append, List.length_append]; show acc.length + 1 + 1 ≤ _; omega)).trans ?_
      rw [h1, List.append_assoc, List.append_assoc]; rfl
    · have e : ins n (x :: l) = x :: ins n l := by show (if n < x then _ else _) = _; rw [if_neg c]
      rw [decide_eq_false c, e]
      unfold corbelref01_With_j2 corbelref01_With_k4 corbelref01_With_j3b corbelref01_With_j4 corbelref01_With_k3
      rw [cond_false, cond_t (decide_eq_true (by omega)), show (i : Int).toNat = i from rfl, g1, optb_some, cond_t (decide_eq_true (by show acc.length + 1 ≤ _; omega)), hw]
      refine (ih (i + 1) j (acc ++ [x]) g3 (by omega) (by rw [List.length_append]; show acc.length + 1 ≤ _; omega) (by omega)).trans ?_
      rw [List.append_assoc]; rfl
theorem rwi_val (k : Nat) (c : Bool) (L : List Int) (n : Int) (hL : L.length < k) (hL' : L.length ≤ 10000) : ∃ c', corbelref01_With k c L n = some (c', if n < 0 ∨ 255 < n ∨ n ∈ L then L else ins n L) := by
  unfold corbelref01_With
  by_cases h0 : n < 0
  · exact ⟨c, by rw [cond_t (decide_eq_true h0), if_pos (.inl h0)]; rfl⟩
  by_cases h1 : 255 < n
  · exact ⟨c, by rw [cond_f (decide_eq_false h0), cond_t (decide_eq_true h1), if_pos (.inr (.inl h1))]; rfl⟩
  rw [cond_f (decide_eq_false h0), cond_f (decide_eq_false h1), rhas_val k c L n hL (by omega), optb_some]
  by_cases h2 : n ∈ L
  · exact ⟨c, by rw [decide_eq_true h2, if_pos (.inr (.inr h2))]; rfl⟩
  · refine ⟨true, ?_⟩
    rw [decide_eq_false h2, if_neg (by rintro (h | h | h); exact h0 h; exact h1 h; exact h2 h)]
    show corbelref01_With_k1 k n L = _
    unfold corbelref01_With_k1
    refine (rwi_go k n L (by omega) _ (fun l => some (true, l)) (fun acc ha => ?_) (fun acc => ?_) L 0 k [] rfl hL (Nat.le_refl 0) (by omega)).trans ?_
    · rw [Bool.not_false, cond_true, cond_t (decide_eq_true (by show acc.length + 1 ≤ _; omega))]; rfl
    · rfl
    · rw [List.nil_append]
def fnx (n : Int) : List Int → Int
  | [] => -1
  | x :: l => if n ≤ x then x else fnx n l
theorem rnext_go (k : Nat) (n : Int) (L : List Int) (hL : L.length ≤ 100000) (l : List Int) : ∀ (i j : Nat), L.drop i = l → l.length < j →
    corbelref01_Next_l0 (fun v => some v) (some (-1)) k n L j (i : Int) = some (fnx n l) := by
  induction l with
  | nil =>
    intro i j hd hj
    obtain ⟨j, rfl⟩ : ∃ q, j = q + 1 := ⟨j - 1, by omega⟩
    have : L.length ≤ i := List.drop_eq_nil_iff.1 hd
    show corbelref01_Next_l0s _ _ _ _ _ _ _ = _
    unfold corbelref01_Next_l0s
    rw [lenI_eq, cond_f (decide_eq_false (by omega))]; rfl
  | cons x l ih =>
    intro i j hd hj
    rw [List.length_cons] at hj
    obtain ⟨j, rfl⟩ : ∃ q, j = q + 1 := ⟨j - 1, by omega⟩
    obtain ⟨h1, h2, h3⟩ := drop_cons hd
    show corbelref01_Next_l0s _ _ _ _ _ _ _ = _
    unfold corbelref01_Next_l0s
    rw [lenI_eq, cond_t (decide_eq_true (by omega)), cond_t (decide_eq_true (by omega)), show (i : Int).toNat = i from rfl, h1, optb_some]
    by_cases e : n ≤ x
    · rw [cond_t (decide_eq_true e), cond_t (decide_eq_true (by omega)), optb_some]
      show some x = some (if n ≤ x then x else _)
      rw [if_pos e]
    · rw [cond_f (decide_eq_false e), w64 (by omega) (by omega), show (i : Int) + 1 = ((i + 1 : Nat) : Int) by omega, ih (i + 1) j h3 (by omega)]
      show _ = some (if n ≤ x then x else _)
      rw [if_neg e]
theorem rnext_val (k : Nat) (c : Bool) (L : List Int) (n : Int) (hL : L.length < k) (hL' : L.length ≤ 100000) : corbelref01_Next k c L n = some (fnx n L) := rnext_go k n L hL' L 0 k rfl hL
/-! ### on the rising list of a set -/
theorem ml_congr {g g' : Nat → Bool} : ∀ (n lo : Nat), (∀ i, lo ≤ i → i < lo + n → g i = g' i) → ml g lo n = ml g' lo n
  | 0, _, _ => rfl
  | n + 1, lo, h => by
    show (if g lo then _ else _) = (if g' lo then _ else _)
    rw [h lo (Nat.le_refl _) (by omega), ml_congr n (lo + 1) fun i h1 h2 => h i (by omega) (by omega)]
theorem ml_filter (g : Nat → Bool) (n : Int) : ∀ (m lo : Nat), (ml g lo m).filter (fun x => !decide (x = n)) = ml (fun i => g i && !decide ((i : Int) = n)) lo m
  | 0, _ => rfl
  | m + 1, lo => by
    show (if g lo then (lo : Int) :: ml g (lo + 1) m else ml g (lo + 1) m).filter _ = (if g lo && !decide ((lo : Int) = n) then _ else _)
    have ih := ml_filter g n m (lo + 1)
    cases hg : g lo with
    | false => simpa using ih
    | true =>
      rw [if_pos rfl, List.filter_cons, ih]
      by_cases e : (lo : Int) = n
      · rw [decide_eq_true e]; rfl
      · rw [decide_eq_false e]; rfl
theorem ins_front (n : Int) : ∀ L : List Int, (∀ x ∈ L, n < x) → ins n L = n :: L
  | [], _ => rfl
  | x :: l, h => by show (if n < x then _ else _) = _; rw [if_pos (h x (List.mem_cons_self ..))]
theorem ml_ins (g : Nat → Bool) (n : Nat) (hg : g n = false) : ∀ (m lo : Nat), lo ≤ n → n < lo + m → ins (n : Int) (ml g lo m) = ml (fun i => g i || decide ((i : Int) = (n : Int))) lo m
  | 0, _, _, _ => by omega
  | m + 1, lo, h1, h2 => by
    show ins (n : Int) (if g lo then (lo : Int) :: ml g (lo + 1) m else ml g (lo + 1) m) = (if g lo || decide ((lo : Int) = (n : Int)) then _ else _)
    by_cases e : lo = n
    · subst e
      rw [hg, decide_eq_true rfl, if_neg (by decide), ins_front _ _ (fun x hx => by obtain ⟨i, rfl, h3, _⟩ := (ml_mem g x m (lo + 1)).1 hx; omega)]
      show _ = (lo : Int) :: _
      congr 1
      refine ml_congr m (lo + 1) fun i h3 h4 => ?_
      show _ = (g i || decide _)
      rw [decide_eq_false (by omega), Bool.or_false]
    · have ih := ml_ins g n hg m (lo + 1) (by omega) (by omega)
      rw [decide_eq_false (by omega), Bool.or_false]
      cases hl : g lo with
      | false => rw [if_neg (by decide), if_neg (by decide)]; exact ih
      | true =>
        rw [if_pos rfl, if_pos rfl]
        show (if (n : Int) < (lo : Int) then _ else _) = _
        rw [if_neg (by omega), ih]
theorem fnx_none (g : Nat → Bool) (n : Int) : ∀ (m lo : Nat), (∀ i : Nat, lo ≤ i → i < lo + m → n ≤ i → g i = false) → fnx n (ml g lo m) = -1
  | 0, _, _ => rfl
  | m + 1, lo, h => by
    have ih := fnx_none g n m (lo + 1) fun i h1 h2 h3 => h i (by omega) (by omega) h3
    show fnx n (if g lo then (lo : Int) :: ml g (lo + 1) m else ml g (lo + 1) m) = _
    cases hg : g lo with
    | false => rw [if_neg (by decide)]; exact ih
    | true =>
      rw [if_pos rfl]
      show (if n ≤ (lo : Int) then _ else _) = _
      rw [if_neg (fun h3 => by rw [h lo (Nat.le_refl _) (by omega) h3] at hg; cases hg)]; exact ih
theorem fnx_some (g : Nat → Bool) (n : Int) (r : Nat) (hr : g r = true) (hn : n ≤ r) : ∀ (m lo : Nat), lo ≤ r → r < lo + m → (∀ i : Nat, lo ≤ i → i < r → n ≤ i → g i = false) → fnx n (ml g lo m) = r
  | 0, _, _, _, _ => by omega
  | m + 1, lo, h1, h2, h => by
    show fnx n (if g lo then (lo : Int) :: ml g (lo + 1) m else ml g (lo + 1) m) = _
    by_cases e : lo = r
    · subst e
      rw [hr, if_pos rfl]
      show (if n ≤ (lo : Int) then _ else _) = _
      rw [if_pos hn]
    · have ih := fnx_some g n r hr hn m (lo + 1) (by omega) (by omega) fun i h3 h4 h5 => h i (by omega) h4 h5
      cases hg : g lo with
      | false => rw [if_neg (by decide)]; exact ih
      | true =>
        rw [if_pos rfl]
        show (if n ≤ (lo : Int) then _ else _) = _
        rw [if_neg (fun h3 => by rw [h lo (Nat.le_refl _) (by omega) h3] at hg; cases hg)]; exact ih
theorem ml_cnt (g : Nat → Bool) : ∀ (m lo : Nat), (ml g lo m).length = cntR g lo m
  | 0, _ => rfl
  | m + 1, lo => by
    show (if g lo then (lo : Int) :: ml g (lo + 1) m else ml g (lo + 1) m).length = (g lo).toNat + _
    have ih := ml_cnt g m (lo + 1)
    cases g lo with
    | false => rw [if_neg (by decide), ih]; simp
    | true => rw [if_pos rfl, List.length_cons, ih]; simp; omega
theorem speaks01 (d : Nat) : corbellaw01_speaks (d + 300) = some true := by kernel_rfl
def Wl (a0 a1 a2 a3 : Int) : List Int := ml (mem a0 a1 a2 a3) 0 256
theorem Wl_eq (a0 a1 a2 a3 : Int) : Wl a0 a1 a2 a3 = ml (mem a0 a1 a2 a3) 0 256 := rfl
theorem Wl_len (a0 a1 a2 a3 : Int) : (Wl a0 a1 a2 a3).length ≤ 256 := ml_len _ 256 0
theorem pm (a0 a1 a2 a3 : Int) (n : Int) : decide (n ∈ Wl a0 a1 a2 a3) = (decide (0 ≤ n ∧ n < 256) && mem a0 a1 a2 a3 n.toNat) := by
  rw [Bool.eq_iff_iff, decide_eq_true_eq, Bool.and_eq_true, decide_eq_true_eq, Wl_eq, ml_mem]
  constructor
  · rintro ⟨i, rfl, _, h2, h3⟩
    exact ⟨by omega, h3⟩
  · rintro ⟨h1, h2⟩
    exact ⟨n.toNat, by omega, by omega, by omega, h2⟩
theorem next_big (k : Nat) (hk : 1 ≤ k) (a0 a1 a2 a3 n : Int) (hn : 256 ≤ n) : nums_Set_Next k a0 a1 a2 a3 n = some (-1) := by
  obtain ⟨k, rfl⟩ : ∃ q, k = q + 1 := ⟨k - 1, by omega⟩
  unfold nums_Set_Next
  rw [decide_eq_false (show ¬ (0 : Int) > n by omega), cond_false]
  show nums_Set_Next_l0s _ _ _ _ _ _ _ _ _ = _
  unfold nums_Set_Next_l0s
  rw [cond_f (decide_eq_false (by omega))]
theorem next_is (k : Nat) (hk : 300 < k) {a0 a1 a2 a3 : Int} (h : U4 a0 a1 a2 a3) (n : Int) : nums_Set_Next k a0 a1 a2 a3 n = some (fnx n (Wl a0 a1 a2 a3)) := by
  rw [Wl_eq]
  by_cases hb : 256 ≤ n
  · rw [next_big k (by omega) _ _ _ _ n hb, fnx_none _ n 256 0 (fun i _ h2 h3 => by omega)]
  · rcases next_val k h n (by omega) (by omega) with ⟨g1, g2⟩ | ⟨r, g1, g2, g3, g4, g5⟩
    · rw [g1, fnx_none _ n 256 0 (fun i _ _ h3 => g2 i h3)]
    · rw [g3, fnx_some _ n r g4 g1 256 0 (by omega) (by omega) (fun i _ h2 h3 => g5 i h3 h2)]
theorem j3_val {R : Type} (e0 : Bool → Option R) (e1 : Option R) (k : Nat) (hk : 300 < k) (ask n : Int) {a0 a1 a2 a3 b0 b1 b2 b3 : Int} (ha : U4 a0 a1 a2 a3) (hb : U4 b0 b1 b2 b3) (hs : ∀ i : Nat, (i : Int) ≠ n → mem a0 a1 a2 a3 i = mem b0 b1 b2 b3 i) (c : Bool) :
    corbellaw01_NumsScripts_j3 e0 e1 k ask n b0 b1 b2 b3 a0 a1 a2 a3 c (Wl b0 b1 b2 b3) = e1 := by
  have hl := Wl_len b0 b1 b2 b3
  unfold corbellaw01_NumsScripts_j3
  rw [has_val k hb n, optb_some, rhas_val k c _ n (by omega) (by omega), optb_some, pm, beq_self_eq_true, Bool.not_true, cond_false, has_val k ha ask, optb_some, has_val k hb ask, optb_some]
  by_cases e : ask = n
  · rw [decide_eq_true e]
    cases (!((decide (0 ≤ ask ∧ ask < 256) && mem a0 a1 a2 a3 ask.toNat) == (decide (0 ≤ ask ∧ ask < 256) && mem b0 b1 b2 b3 ask.toNat))) <;> rfl
  · have he : (decide (0 ≤ ask ∧ ask < 256) && mem a0 a1 a2 a3 ask.toNat) = (decide (0 ≤ ask ∧ ask < 256) && mem b0 b1 b2 b3 ask.toNat) := by
      by_cases hr : 0 ≤ ask ∧ ask < 256
      · rw [hs ask.toNat (by omega)]
      · rw [decide_eq_false hr, Bool.false_and, Bool.false_and]
    rw [he, beq_self_eq_true]; rfl
theorem j3b_val {R : Type} (e0 : Bool → Option R) (e1 : Option R) (k : Nat) (hk : 300 < k) (ask n : Int) {a0 a1 a2 a3 b0 b1 b2 b3 : Int} (ha : U4 a0 a1 a2 a3) (hb : U4 b0 b1 b2 b3) (hs : ∀ i : Nat, (i : Int) ≠ n → mem a0 a1 a2 a3 i = mem b0 b1 b2 b3 i) (c : Bool) :
    corbellaw01_NumsScripts_j3b e0 e1 k ask n b0 b1 b2 b3 c (Wl b0 b1 b2 b3) a0 a1 a2 a3 = e1 := by
  have hl := Wl_len b0 b1 b2 b3
  unfold corbellaw01_NumsScripts_j3b
  rw [has_val k hb n, optb_some, rhas_val k c _ n (by omega) (by omega), optb_some, pm, beq_self_eq_true, Bool.not_true, cond_false, has_val k ha ask, optb_some, has_val k hb ask, optb_some]
  by_cases e : ask = n
  · rw [decide_eq_true e]
    cases (!((decide (0 ≤ ask ∧ ask < 256) && mem a0 a1 a2 a3 ask.toNat) == (decide (0 ≤ ask ∧ ask < 256) && mem b0 b1 b2 b3 ask.toNat))) <;> rfl
  · have he : (decide (0 ≤ ask ∧ ask < 256) && mem a0 a1 a2 a3 ask.toNat) = (decide (0 ≤ ask ∧ ask < 256) && mem b0 b1 b2 b3 ask.toNat) := by
      by_cases hr : 0 ≤ ask ∧ ask < 256
      · rw [hs ask.toNat (by omega)]
      · rw [decide_eq_false hr, Bool.false_and, Bool.false_and]
    rw [he, beq_self_eq_true]; rfl
theorem wo_both (k : Nat) (hk : 300 < k) (c : Bool) {a0 a1 a2 a3 : Int} (ha : U4 a0 a1 a2 a3) (n : Int) : ∃ b0 b1 b2 b3 c', nums_Set_Without k a0 a1 a2 a3 n = some (b0, (b1, (b2, b3))) ∧ corbelref01_Without k c (Wl a0 a1 a2 a3) n = some (c', Wl b0 b1 b2 b3) ∧ U4 b0 b1 b2 b3 ∧ ∀ i : Nat, (i : Int) ≠ n → mem a0 a1 a2 a3 i = mem b0 b1 b2 b3 i := by
  have hl := Wl_len a0 a1 a2 a3
  obtain ⟨b0, b1, b2, b3, h1, h2, h3⟩ := without_val k ha n
  refine ⟨b0, b1, b2, b3, true, h1, ?_, h2, fun i hi => by rw [h3, decide_eq_false (fun x => hi x.1), Bool.not_false, Bool.and_true]⟩
  rw [rwo_val k c _ n (by omega) (by omega), Wl_eq, ml_filter, Wl_eq]
  congr 2
  refine ml_congr 256 0 fun i _ hi => ?_
  rw [h3]
  congr 2
  rw [decide_eq_decide]
  omega
theorem wi_both (k : Nat) (hk : 300 < k) (c : Bool) {a0 a1 a2 a3 : Int} (ha : U4 a0 a1 a2 a3) (n : Int) : ∃ b0 b1 b2 b3 c', nums_Set_With k a0 a1 a2 a3 n = some (b0, (b1, (b2, b3))) ∧ corbelref01_With k c (Wl a0 a1 a2 a3) n = some (c', Wl b0 b1 b2 b3) ∧ U4 b0 b1 b2 b3 ∧ ∀ i : Nat, (i : Int) ≠ n → mem a0 a1 a2 a3 i = mem b0 b1 b2 b3 i := by
  have hl := Wl_len a0 a1 a2 a3
  obtain ⟨b0, b1, b2, b3, h1, h2, h3⟩ := with_val k ha n
  obtain ⟨c', h4⟩ := rwi_val k c (Wl a0 a1 a2 a3) n (by omega) (by omega)
  refine ⟨b0, b1, b2, b3, c', h1, ?_, h2, fun i hi => by rw [h3, decide_eq_false (fun x => hi x.1), Bool.or_false]⟩
  rw [h4]
  congr 2
  rw [Wl_eq b0 b1 b2 b3]
  by_cases hc : n < 0 ∨ 255 < n ∨ n ∈ Wl a0 a1 a2 a3
  · rw [if_pos hc, Wl_eq]
    refine ml_congr 256 0 fun i _ hi => ?_
    rw [h3]
    by_cases e : (i : Int) = n
    · have hm : n ∈ Wl a0 a1 a2 a3 := by
        rcases hc with hc | hc | hc
        · omega
        · omega
        · exact hc
      obtain ⟨i', e', _, _, g⟩ := (ml_mem _ n 256 0).1 hm
      have : i' = i := by omega
      subst this
      rw [g]; rfl
    · rw [decide_eq_false (fun x => e x.1), Bool.or_false]
  · have hn : 0 ≤ n ∧ n ≤ 255 := by
      constructor
      · have := fun h => hc (.inl h); omega
      · have := fun h => hc (.inr (.inl h)); omega
    obtain ⟨m, hm⟩ : ∃ m : Nat, n = (m : Int) := Int.eq_ofNat_of_zero_le hn.1
    have hg : mem a0 a1 a2 a3 m = false := by
      cases hg : mem a0 a1 a2 a3 m with
      | false => rfl
      | true => exact absurd (.inr (.inr ((ml_mem _ n 256 0).2 ⟨m, hm, by omega, by omega, hg⟩))) hc
    rw [if_neg hc, hm, Wl_eq, ml_ins _ m hg 256 0 (by omega) (by omega)]
    refine ml_congr 256 0 fun i _ hi => ?_
    rw [h3]
    congr 1
    rw [decide_eq_decide]
    omega
theorem scripts_go {R : Type} (e0 : Bool → Int → Int → Int → Int → Int → Int → Int → Int → Bool → List Int → Option R) (e1 : Bool → Int → Int → Int → Int → Bool → List Int → Int → Int → Int → Int → Option R) (e2 : Int → Int → Int → Int → Bool → List Int → Option R) (k : Nat) (hk : 300 < k) (S : List (Int × Bool)) (ask : Int) : ∀ (m j i : Nat) (c : Bool) {a0 a1 a2 a3 : Int}, 300 - i = m → i ≤ 300 → m < j → U4 a0 a1 a2 a3 →
    ∃ b0 b1 b2 b3 c', U4 b0 b1 b2 b3 ∧ corbellaw01_NumsScripts_l0 e0 e1 e2 k S ask j (i : Int) a0 a1 a2 a3 c (Wl a0 a1 a2 a3) = e2 b0 b1 b2 b3 c' (Wl b0 b1 b2 b3) := by
  intro m
  induction m with
  | zero =>
    intro j i c a0 a1 a2 a3 hm hi hj hu
    obtain ⟨j, rfl⟩ : ∃ q, j = q + 1 := ⟨j - 1, by omega⟩
    refine ⟨a0, a1, a2, a3, c, hu, ?_⟩
    show corbellaw01_NumsScripts_l0s _ _ _ _ _ _ _ _ _ _ _ _ _ _ = _
    unfold corbellaw01_NumsScripts_l0s
    by_cases h : (i : Int) < lenI S
    · rw [cond_t (decide_eq_true h), cond_f (decide_eq_false (by omega))]
    · rw [cond_f (decide_eq_false h)]
  | succ m ih =>
    intro j i c a0 a1 a2 a3 hm hi hj hu
    obtain ⟨j, rfl⟩ : ∃ q, j = q + 1 := ⟨j - 1, by omega⟩
    have hw : wrap64 ((i : Int) + 1) = ((i + 1 : Nat) : Int) := by rw [w64 (by omega) (by omega)]; omega
    by_cases h : (i : Int) < lenI S
    · have hlt : i < S.length := by rw [lenI_eq] at h; omega
      rcases hx : S[i] with ⟨n, away⟩
      have hget : S[i]? = some (n, away) := by rw [List.getElem?_eq_getElem hlt, hx]
      cases away with
      | true =>
        obtain ⟨b0, b1, b2, b3, c1, h1, h2, h3, h4⟩ := wo_both k hk c hu n
        obtain ⟨d0, d1, d2, d3, c2, h5, h6⟩ := ih j (i + 1) c1 (a0 := b0) (a1 := b1) (a2 := b2) (a3 := b3) (by omega) (by omega) (by omega) h3
        refine ⟨d0, d1, d2, d3, c2, h5, Eq.trans ?_ h6⟩
        show corbellaw01_NumsScripts_l0s _ _ _ _ _ _ _ _ _ _ _ _ _ _ = _
        unfold corbellaw01_NumsScripts_l0s corbellaw01_NumsScripts_j1
        rw [cond_t (decide_eq_true h), cond_t (decide_eq_true (by omega)), cond_t (decide_eq_true (by omega)), show (i : Int).toNat = i from rfl, hget, optb_some]
        simp only [cond_true]
        rw [cond_t (decide_eq_true (by omega)), optb_some]
        simp only []
        rw [h1, optb_some, cond_t (decide_eq_true (by omega)), optb_some]
        simp only []
        rw [h2, optb_some]
        unfold corbellaw01_NumsScripts_j2
        rw [cond_t (decide_eq_true (by omega)), show (i : Int).toNat = i from rfl, hget, optb_some]
        simp only []
        rw [j3_val _ _ k hk ask n hu h3 h4 c1]
        unfold corbellaw01_NumsScripts_j5
        rw [hw]
      | false =>
        obtain ⟨b0, b1, b2, b3, c1, h1, h2, h3, h4⟩ := wi_both k hk c hu n
        obtain ⟨d0, d1, d2, d3, c2, h5, h6⟩ := ih j (i + 1) c1 (a0 := b0) (a1 := b1) (a2 := b2) (a3 := b3) (by omega) (by omega) (by omega) h3
        refine ⟨d0, d1, d2, d3, c2, h5, Eq.trans ?_ h6⟩
        show corbellaw01_NumsScripts_l0s _ _ _ _ _ _ _ _ _ _ _ _ _ _ = _
        unfold corbellaw01_NumsScripts_l0s corbellaw01_NumsScripts_j1
        rw [cond_t (decide_eq_true h), cond_t (decide_eq_true (by omega)), cond_t (decide_eq_true (by omega)), show (i : Int).toNat = i from rfl, hget, optb_some]
        simp only [cond_false]
        rw [cond_t (decide_eq_true (by omega)), optb_some]
        simp only []
        rw [h1, optb_some, cond_t (decide_eq_true (by omega)), optb_some]
        simp only []
        rw [h2, optb_some]
        unfold corbellaw01_NumsScripts_j2b
        rw [cond_t (decide_eq_true (by omega)), show (i : Int).toNat = i from rfl, hget, optb_some]
        simp only []
        rw [j3b_val _ _ k hk ask n hu h3 h4 c1]
        unfold corbellaw01_NumsScripts_j5b
        rw [hw]
    · refine ⟨a0, a1, a2, a3, c, hu, ?_⟩
      show corbellaw01_NumsScripts_l0s _ _ _ _ _ _ _ _ _ _ _ _ _ _ = _
      unfold corbellaw01_NumsScripts_l0s
      rw [cond_f (decide_eq_false h)]
theorem NumsScripts : NumsScriptsPure := by
  intro x0 x1 w0 w1
  obtain ⟨ask, hask⟩ : ∃ a : Int, a = x1 := ⟨x1, rfl⟩
  subst hask
  refine ⟨2000 + 300, ?_⟩
  unfold corbellaw01_NumsScripts
  rw [speaks01 2000, optb_some, Bool.not_true, cond_false]
  have z : UU 0 := by unfold UU; decide
  have hz : ([] : List Int) = Wl 0 0 0 0 := (ml_none _ 256 0 (fun i _ _ => mem_zero i)).symm
  rw [hz]
  obtain ⟨b0, b1, b2, b3, c, h1, h2⟩ := scripts_go (R := Bool) _ _ _ (2000 + 300) (by omega) x0.2 ask 300 (2000 + 300) 0 true (a0 := 0) (a1 := 0) (a2 := 0) (a3 := 0) rfl (by omega) (by omega) ⟨z, z, z, z⟩
  refine Eq.trans h2 ?_
  have hl := Wl_len b0 b1 b2 b3
  unfold corbellaw01_NumsScripts_j6
  rw [list_val (2000 + 300) (by omega) h1, optb_some, ← Wl_eq]
  simp only []
  rw [ints_same (2000 + 300) _ c (Wl b0 b1 b2 b3) (by omega) (by omega), optb_some, cond_true, count_val (2000 + 300) h1 (by omega), optb_some, lenI_eq, show (Wl b0 b1 b2 b3).length = cntR (mem b0 b1 b2 b3) 0 256 from ml_cnt _ 256 0, cond_t (decide_eq_true rfl), next_is (2000 + 300) (by omega) h1 ask, optb_some, rnext_val _ c _ ask (by omega) (by omega), optb_some, cond_t (decide_eq_true rfl), has_val _ h1 ask, optb_some, rhas_val _ c _ ask (by omega) (by omega), optb_some, pm, beq_self_eq_true]
end Go.Proofs.Ytncdfikcdchimaa.Pure
