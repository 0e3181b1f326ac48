/- NumsWalk: the pure statement, over numbers and lists alone; no conditions. -/
import Derived.Test.YtncdfikcdchimaaStatNumsWalk
set_option linter.unusedVariables false
set_option linter.unusedSimpArgs false
namespace Go.Proofs.Ytncdfikcdchimaa.Pure
open Go Go.RowKit Go.Proofs.Ytncdfikcdchimaa.Ev
/-! ### whole numbers -/
theorem wf_i64 {n : Int} (h : Ty.wf (.int .i64) n) : -9223372036854775808 ≤ n ∧ n ≤ 9223372036854775807 := by
  have h : (Lit.int .i64 n).wf = true := h
  simpa [Lit.wf, IntKind.min, IntKind.max, IntKind.signed, IntKind.bits] using h
theorem w64 {n : Int} (h0 : -9223372036854775808 ≤ n) (h1 : n ≤ 9223372036854775807) : wrap64 n = n := by unfold wrap64; omega
theorem tdiv_pos {a b : Int} (ha : 0 ≤ a) : Int.tdiv a b = a / b := Int.tdiv_eq_ediv_of_nonneg ha
theorem tmod_pos {a b : Int} (ha : 0 ≤ a) : Int.tmod a b = a % b := Int.tmod_eq_emod_of_nonneg ha
theorem bytesOf_append (a b : List Int) : bytesOf a ++ bytesOf b = bytesOf (a ++ b) := by
  apply ByteArray.ext
  simp [bytesOf]
theorem cond_t {α : Type} {c : Bool} {a b : α} (h : c = true) : (bif c then a else b) = a := by rw [h]; rfl
theorem cond_f {α : Type} {c : Bool} {a b : α} (h : c = false) : (bif c then a else b) = b := by rw [h]; rfl
theorem speaks01 (d : Nat) : corbellaw01_speaks (d + 300) = some true := by kernel_rfl
/-! ### sets of small numbers -/
abbrev u64max : Int := 18446744073709551616
def UU (a : Int) : Prop := 0 ≤ a ∧ a < 18446744073709551616
theorem UU_nat {n : Nat} (h : n < 18446744073709551616) : UU (n : Int) := by unfold UU; omega
theorem u64_wrap {n : Nat} (h : n < 18446744073709551616) : IntKind.u64.wrap (n : Int) = n := by rw [IntKind.wrap_u64]; omega
theorem ofInt_nat {a : Int} (h : UU a) : (BitVec.ofInt 64 a).toNat = a.toNat := by
  obtain ⟨h0, h1⟩ := h
  rw [BitVec.toNat_ofInt]; show (a % 18446744073709551616).toNat = a.toNat
  rw [Int.emod_eq_of_lt h0 h1]
theorem u_and {a b : Int} (ha : UU a) (hb : UU b) : bitop .and .u64 a b = ((a.toNat &&& b.toNat : Nat) : Int) := by
  have hlt : a.toNat &&& b.toNat < 18446744073709551616 := Nat.lt_of_le_of_lt Nat.and_le_left (by have := ha; unfold UU at this; omega)
  show IntKind.u64.wrap ((BitVec.ofInt 64 a &&& BitVec.ofInt 64 b).toNat : Int) = _
  rw [BitVec.toNat_and, ofInt_nat ha, ofInt_nat hb, u64_wrap hlt]
theorem u_or {a b : Int} (ha : UU a) (hb : UU b) : bitop .or .u64 a b = ((a.toNat ||| b.toNat : Nat) : Int) ∧ a.toNat ||| b.toNat < 18446744073709551616 := by
  have hlt : a.toNat ||| b.toNat < 2 ^ 64 := Nat.or_lt_two_pow (by unfold UU at ha; omega) (by unfold UU at hb; omega)
  refine ⟨?_, hlt⟩
  show IntKind.u64.wrap ((BitVec.ofInt 64 a ||| BitVec.ofInt 64 b).toNat : Int) = _
  rw [BitVec.toNat_or, ofInt_nat ha, ofInt_nat hb, u64_wrap hlt]
theorem u_bit {a : Int} (ha : UU a) {m : Int} (h0 : 0 ≤ m) (h1 : m < 64) : decide (bitop .and .u64 (shrv .u64 a m) 1 = 1) = a.toNat.testBit m.toNat := by
  have e1 : shrv .u64 a m = a / 2 ^ m.toNat := by
    unfold shrv
    have : min m.toNat IntKind.u64.bits = m.toNat := by show min m.toNat 64 = _; omega
    rw [this]
  have e2 : a / 2 ^ m.toNat = ((a.toNat / 2 ^ m.toNat : Nat) : Int) := by
    have : a = (a.toNat : Int) := by unfold UU at ha; omega
    conv => lhs; rw [this]
    simp
  have hle : a.toNat / 2 ^ m.toNat ≤ a.toNat := Nat.div_le_self _ _
  rw [e1, e2, u_and (UU_nat (Nat.lt_of_le_of_lt hle (by unfold UU at ha; omega))) (by unfold UU; decide), Int.toNat_natCast, Nat.testBit_eq_decide_div_mod_eq]
  have : a.toNat / 2 ^ m.toNat &&& (1 : Int).toNat = a.toNat / 2 ^ m.toNat % 2 := Nat.and_one_is_mod _
  rw [this]
  rw [decide_eq_decide]; omega
theorem u_pow {m : Int} (h0 : 0 ≤ m) (h1 : m < 64) : shlv .u64 1 m = ((2 ^ m.toNat : Nat) : Int) ∧ UU ((2 ^ m.toNat : Nat) : Int) := by
  have hlt : 2 ^ m.toNat < 2 ^ 64 := Nat.pow_lt_pow_right (by decide) (by omega)
  have h64 : (2 : Nat) ^ 64 = 18446744073709551616 := by decide
  refine ⟨?_, UU_nat (by omega)⟩
  unfold shlv
  have : min m.toNat IntKind.u64.bits = m.toNat := by show min m.toNat 64 = _; omega
  rw [this, Int.one_mul]
  have e : (2 : Int) ^ m.toNat = ((2 ^ m.toNat : Nat) : Int) := by simp
  rw [e, u64_wrap (by omega)]
theorem u_set {a : Int} (ha : UU a) {m : Int} (h0 : 0 ≤ m) (h1 : m < 64) : UU (bitop .or .u64 a (shlv .u64 1 m)) ∧ ∀ i, (bitop .or .u64 a (shlv .u64 1 m)).toNat.testBit i = (a.toNat.testBit i || decide (m.toNat = i)) := by
  obtain ⟨e, hp⟩ := u_pow h0 h1
  obtain ⟨e2, hlt⟩ := u_or ha hp
  rw [e, e2]
  refine ⟨by unfold UU; omega, fun i => ?_⟩
  rw [Int.toNat_natCast, Int.toNat_natCast, Nat.testBit_or, Nat.testBit_two_pow]
def mem (a0 a1 a2 a3 : Int) (i : Nat) : Bool :=
  if i < 64 then a0.toNat.testBit i else if i < 128 then a1.toNat.testBit (i - 64) else if i < 192 then a2.toNat.testBit (i - 128) else if i < 256 then a3.toNat.testBit (i - 192) else false
structure U4 (a0 a1 a2 a3 : Int) : Prop where
  h0 : UU a0
  h1 : UU a1
  h2 : UU a2
  h3 : UU a3
theorem word_of {n : Int} (h0 : 0 ≤ n) (h1 : n < 256) : wrap64 (Int.tdiv n 64) = n / 64 ∧ Int.tmod n 64 = n % 64 ∧ 0 ≤ n % 64 ∧ n % 64 < 64 ∧ (n / 64 = 0 ∧ n < 64 ∧ n % 64 = n ∨ n / 64 = 1 ∧ 64 ≤ n ∧ n < 128 ∧ n % 64 = n - 64 ∨ n / 64 = 2 ∧ 128 ≤ n ∧ n < 192 ∧ n % 64 = n - 128 ∨ n / 64 = 3 ∧ 192 ≤ n ∧ n % 64 = n - 192) := by
  rw [tdiv_pos h0, tmod_pos h0, w64 (by omega) (by omega)]
  omega
theorem has_val (k : Nat) {a0 a1 a2 a3 : Int} (h : U4 a0 a1 a2 a3) (n : Int) : nums_Set_Has k a0 a1 a2 a3 n = some (decide (0 ≤ n ∧ n < 256) && mem a0 a1 a2 a3 n.toNat) := by
  unfold nums_Set_Has nums_holds
  by_cases hn : 0 ≤ n ∧ n < 256
  · obtain ⟨e1, e2, e3, e4, hc⟩ := word_of hn.1 hn.2
    simp only [Bool.cond_decide, optb, e1, e2]
    rw [if_pos hn.1]
    simp only
    rw [decide_eq_true hn.2, decide_eq_true hn, cond_true, Bool.true_and]
    unfold mem
    rcases hc with ⟨c1, c2, c3⟩ | ⟨c1, c2, c3, c4⟩ | ⟨c1, c2, c3, c4⟩ | ⟨c1, c2, c3⟩
    · rw [if_pos c1, if_neg (by omega), if_pos (by omega), u_bit h.h0 e3 e4, c3]
    · rw [if_neg (by omega), if_pos c1, if_neg (by omega), if_neg (by omega), if_pos (by omega), u_bit h.h1 e3 e4, c4, show (n - 64).toNat = n.toNat - 64 by omega]
    · rw [if_neg (by omega), if_neg (by omega), if_pos c1, if_neg (by omega), if_neg (by omega), if_neg (by omega), if_pos (by omega), u_bit h.h2 e3 e4, c4, show (n - 128).toNat = n.toNat - 128 by omega]
    · rw [if_neg (by omega), if_neg (by omega), if_neg (by omega), if_pos c1, if_neg (by omega), if_neg (by omega), if_neg (by omega), if_neg (by omega), if_pos (by omega), u_bit h.h3 e3 e4, c3, show (n - 192).toNat = n.toNat - 192 by omega]
  · rw [decide_eq_false hn, Bool.false_and]
    simp only [Bool.cond_decide]
    by_cases h0 : 0 ≤ n
    · rw [if_pos h0, decide_eq_false (by omega)]; rfl
    · rw [if_neg h0]; rfl
theorem with_val (k : Nat) {a0 a1 a2 a3 : Int} (h : U4 a0 a1 a2 a3) (n : Int) : ∃ b0 b1 b2 b3, nums_Set_With k a0 a1 a2 a3 n = some (b0, (b1, (b2, b3))) ∧ U4 b0 b1 b2 b3 ∧
    ∀ i : Nat, mem b0 b1 b2 b3 i = (mem a0 a1 a2 a3 i || decide ((i : Int) = n ∧ i < 256)) := by
  unfold nums_Set_With nums_holds nums_Set_With_j0 nums_Set_With_k0
  by_cases hn : 0 ≤ n ∧ n < 256
  · obtain ⟨e1, e2, e3, e4, hc⟩ := word_of hn.1 hn.2
    simp only [Bool.cond_decide, optb, e1, e2]
    rw [if_pos hn.1]
    simp only
    rw [decide_eq_true hn.2, cond_true]
    have key : ∀ (w : Int) (lo : Nat) (i : Nat), UU w → (n % 64 = n - lo) → (lo : Int) ≤ n → lo ≤ i → (bitop .or .u64 w (shlv .u64 1 (n % 64))).toNat.testBit (i - lo) = (w.toNat.testBit (i - lo) || decide ((i : Int) = n)) := fun w lo i hw hm hl hi => by
      rw [(u_set hw e3 e4).2]; congr 1; rw [decide_eq_decide]; omega
    have far : ∀ (b c : Bool) (i : Nat), ((i : Int) ≠ n) → b = c → b = (c || decide ((i : Int) = n ∧ i < 256)) := fun b c i hi hb => by rw [decide_eq_false (fun h => hi h.1), Bool.or_false]; exact hb
    rcases hc with ⟨c1, c2, c3⟩ | ⟨c1, c2, c3, c4⟩ | ⟨c1, c2, c3, c4⟩ | ⟨c1, c2, c3⟩
    · rw [if_pos c1, if_neg (by omega), if_pos c1]
      refine ⟨_, _, _, _, rfl, ⟨(u_set h.h0 e3 e4).1, h.h1, h.h2, h.h3⟩, fun i => ?_⟩
      unfold mem
      by_cases hi : i < 64
      · rw [if_pos hi, if_pos hi]
        have := key a0 0 i h.h0 (by omega) (by omega) (by omega)
        rw [Nat.sub_zero] at this
        rw [this]; congr 1; rw [decide_eq_decide]; omega
      · rw [if_neg hi, if_neg hi]; exact far _ _ _ (by omega) rfl
    · rw [if_neg (by omega), if_pos c1, if_neg (by omega), if_neg (by omega), if_pos c1]
      refine ⟨_, _, _, _, rfl, ⟨h.h0, (u_set h.h1 e3 e4).1, h.h2, h.h3⟩, fun i => ?_⟩
      unfold mem
      by_cases hi : i < 64
      · rw [if_pos hi, if_pos hi]; exact far _ _ _ (by omega) rfl
      by_cases hi2 : i < 128
      · rw [if_neg hi, if_neg hi, if_pos hi2, if_pos hi2, key a1 64 i h.h1 (by omega) (by omega) (by omega)]; congr 1; rw [decide_eq_decide]; omega
      · rw [if_neg hi, if_neg hi, if_neg hi2, if_neg hi2]; exact far _ _ _ (by omega) rfl
    · rw [if_neg (by omega), if_neg (by omega), if_pos c1, if_neg (by omega), if_neg (by omega), if_neg (by omega), if_pos c1]
      refine ⟨_, _, _, _, rfl, ⟨h.h0, h.h1, (u_set h.h2 e3 e4).1, h.h3⟩, fun i => ?_⟩
      unfold mem
      by_cases hi : i < 64
      · rw [if_pos hi, if_pos hi]; exact far _ _ _ (by omega) rfl
      by_cases hi2 : i < 128
      · rw [if_neg hi, if_neg hi, if_pos hi2, if_pos hi2]; exact far _ _ _ (by omega) rfl
      by_cases hi3 : i < 192
      · rw [if_neg hi, if_neg hi, if_neg hi2, if_neg hi2, if_pos hi3, if_pos hi3, key a2 128 i h.h2 (by omega) (by omega) (by omega)]; congr 1; rw [decide_eq_decide]; omega
      · rw [if_neg hi, if_neg hi, if_neg hi2, if_neg hi2, if_neg hi3, if_neg hi3]; exact far _ _ _ (by omega) rfl
    · rw [if_neg (by omega), if_neg (by omega), if_neg (by omega), if_pos c1, if_neg (by omega), if_neg (by omega), if_neg (by omega), if_neg (by omega), if_pos c1]
      refine ⟨_, _, _, _, rfl, ⟨h.h0, h.h1, h.h2, (u_set h.h3 e3 e4).1⟩, fun i => ?_⟩
      unfold mem
      by_cases hi : i < 64
      · rw [if_pos hi, if_pos hi]; exact far _ _ _ (by omega) rfl
      by_cases hi2 : i < 128
      · rw [if_neg hi, if_neg hi, if_pos hi2, if_pos hi2]; exact far _ _ _ (by omega) rfl
      by_cases hi3 : i < 192
      · rw [if_neg hi, if_neg hi, if_neg hi2, if_neg hi2, if_pos hi3, if_pos hi3]; exact far _ _ _ (by omega) rfl
      by_cases hi4 : i < 256
      · rw [if_neg hi, if_neg hi, if_neg hi2, if_neg hi2, if_neg hi3, if_neg hi3, if_pos hi4, if_pos hi4, key a3 192 i h.h3 (by omega) (by omega) (by omega)]; congr 1; rw [decide_eq_decide]; omega
      · rw [if_neg hi, if_neg hi, if_neg hi2, if_neg hi2, if_neg hi3, if_neg hi3, if_neg hi4, if_neg hi4]; exact far _ _ _ (by omega) rfl
  · refine ⟨a0, a1, a2, a3, ?_, h, fun i => by rw [decide_eq_false (by omega), Bool.or_false]⟩
    simp only [Bool.cond_decide]
    by_cases h0 : 0 ≤ n
    · rw [if_pos h0, decide_eq_false (by omega)]; rfl
    · rw [if_neg h0]; rfl
theorem mem_lt {a0 a1 a2 a3 : Int} {i : Nat} (h : mem a0 a1 a2 a3 i = true) : i < 256 := by
  unfold mem at h
  split at h
  · omega
  · split at h
    · omega
    · split at h
      · omega
      · split at h
        · omega
        · cases h
theorem mem_zero (i : Nat) : mem 0 0 0 0 i = false := by
  unfold mem
  have : ∀ j, Nat.testBit (0 : Int).toNat j = false := fun j => Nat.zero_testBit j
  simp only [this, ite_self]
/-- A set of all numbers of a list. -/
theorem of_loop {R : Type} (e0 : Int → Int → Int → Int → Int → Int → Int → Int → Option R) (k : Nat) (nl : Bool) (L : List Int) (x y z u : Int) (hL : L.length ≤ 100000) (m : Nat) :
    ∀ (j i : Nat) {a0 a1 a2 a3 : Int}, L.length - i = m → i ≤ L.length → m < j → U4 a0 a1 a2 a3 → (∀ q : Nat, mem a0 a1 a2 a3 q = true ↔ q < 256 ∧ (q : Int) ∈ L.take i) →
      ∃ b0 b1 b2 b3, nums_Of_l0 e0 k j nl L (L.length : Int) (i : Int) x y z u a0 a1 a2 a3 = e0 x y z u b0 b1 b2 b3 ∧ U4 b0 b1 b2 b3 ∧ ∀ q : Nat, mem b0 b1 b2 b3 q = true ↔ q < 256 ∧ (q : Int) ∈ L := by
  induction m with
  | zero =>
    intro j i a0 a1 a2 a3 hm hi hj hu hq
    obtain ⟨j, rfl⟩ : ∃ q, j = q + 1 := ⟨j - 1, by omega⟩
    have : i = L.length := by omega
    subst this
    rw [List.take_length] at hq
    refine ⟨a0, a1, a2, a3, ?_, hu, hq⟩
    show nums_Of_l0s _ e0 k nl L (L.length : Int) (L.length : Int) x y z u a0 a1 a2 a3 = _
    simp only [nums_Of_l0s, Bool.cond_decide]
    rw [if_neg (by omega)]
  | succ m ih =>
    intro j i a0 a1 a2 a3 hm hi hj hu hq
    obtain ⟨j, rfl⟩ : ∃ q, j = q + 1 := ⟨j - 1, by omega⟩
    have hlt : i < L.length := by omega
    obtain ⟨b0, b1, b2, b3, h1, h2, h3⟩ := with_val k hu L[i]
    obtain ⟨c0, c1, c2, c3, h4, h5, h6⟩ := ih j (i + 1) (a0 := b0) (a1 := b1) (a2 := b2) (a3 := b3) (by omega) hlt (by omega) h2 (fun q => by
      rw [h3, Bool.or_eq_true, hq, decide_eq_true_eq, List.take_succ_eq_append_getElem hlt, List.mem_append, List.mem_singleton]
      constructor
      · rintro (⟨g1, g2⟩ | ⟨g1, g2⟩)
        · exact ⟨g1, .inl g2⟩
        · exact ⟨g2, .inr g1⟩
      · rintro ⟨g1, g2 | g2⟩
        · exact .inl ⟨g1, g2⟩
        · exact .inr ⟨g2, g1⟩)
    refine ⟨c0, c1, c2, c3, ?_, h5, h6⟩
    show nums_Of_l0s _ e0 k nl L (L.length : Int) (i : Int) x y z u a0 a1 a2 a3 = _
    simp only [nums_Of_l0s, Bool.cond_decide]
    rw [if_pos (by omega), if_pos (by omega), Int.toNat_natCast, List.getElem?_eq_getElem hlt]
    simp only [optb, h1]
    rw [w64 (n := (i : Int) + 1) (by omega) (by omega)]
    exact h4
theorem of_val (k : Nat) (nl : Bool) (L : List Int) (hL : L.length ≤ 100000) (hk : L.length < k) : ∃ b0 b1 b2 b3, nums_Of k nl L = some (b0, (b1, (b2, b3))) ∧ U4 b0 b1 b2 b3 ∧ ∀ q : Nat, mem b0 b1 b2 b3 q = true ↔ q < 256 ∧ (q : Int) ∈ L := by
  have z : UU 0 := by unfold UU; decide
  obtain ⟨b0, b1, b2, b3, h1, h2, h3⟩ := of_loop (fun _ _ _ _ a b c d => some (a, (b, (c, d)))) k nl L 0 0 0 0 hL L.length k 0 (a0 := 0) (a1 := 0) (a2 := 0) (a3 := 0) (by omega) (by omega) hk ⟨z, z, z, z⟩ (fun q => by rw [mem_zero]; simp)
  refine ⟨b0, b1, b2, b3, ?_, h2, h3⟩
  unfold nums_Of
  rw [lenI_eq]
  exact h1
/-- The next one. -/
theorem next_loop {R : Type} (e0 : Int → Option R) (e1 : Option R) (k : Nat) {a0 a1 a2 a3 : Int} (h : U4 a0 a1 a2 a3) (m : Nat) : ∀ (j f : Nat), 256 - f = m → m < j →
    (nums_Set_Next_l0 e0 e1 k j (f : Int) a0 a1 a2 a3 = e1 ∧ ∀ i, f ≤ i → mem a0 a1 a2 a3 i = false) ∨
    ∃ r : Nat, f ≤ r ∧ r < 256 ∧ nums_Set_Next_l0 e0 e1 k j (f : Int) a0 a1 a2 a3 = e0 r ∧ mem a0 a1 a2 a3 r = true ∧ ∀ i, f ≤ i → i < r → mem a0 a1 a2 a3 i = false := by
  have no : ∀ i, 256 ≤ i → mem a0 a1 a2 a3 i = false := fun i hi => by
    cases hm : mem a0 a1 a2 a3 i with
    | false => rfl
    | true => have := mem_lt hm; omega
  induction m with
  | zero =>
    intro j f hm hj
    obtain ⟨j, rfl⟩ : ∃ q, j = q + 1 := ⟨j - 1, by omega⟩
    left
    refine ⟨?_, fun i hi => no i (by omega)⟩
    show nums_Set_Next_l0s _ e0 e1 k (f : Int) a0 a1 a2 a3 = _
    simp only [nums_Set_Next_l0s, Bool.cond_decide]
    rw [if_neg (by omega)]
  | succ m ih =>
    intro j f hm hj
    obtain ⟨j, rfl⟩ : ∃ q, j = q + 1 := ⟨j - 1, by omega⟩
    have e : nums_Set_Next_l0 e0 e1 k (j + 1) (f : Int) a0 a1 a2 a3 = nums_Set_Next_l0s (nums_Set_Next_l0 e0 e1 k j) e0 e1 k (f : Int) a0 a1 a2 a3 := rfl
    rw [e]
    simp only [nums_Set_Next_l0s, Bool.cond_decide, has_val k h, optb, Int.toNat_natCast]
    rw [if_pos (by omega), decide_eq_true (show 0 ≤ (f : Int) ∧ (f : Int) < 256 by omega), Bool.true_and]
    cases hf : mem a0 a1 a2 a3 f with
    | true => exact .inr ⟨f, Nat.le_refl _, by omega, rfl, hf, fun i h1 h2 => by omega⟩
    | false =>
      rw [cond_false, w64 (n := (f : Int) + 1) (by omega) (by omega), show (f : Int) + 1 = ((f + 1 : Nat) : Int) by omega]
      rcases ih j (f + 1) (by omega) (by omega) with ⟨h1, h2⟩ | ⟨r, h1, h2, h3, h4, h5⟩
      · exact .inl ⟨h1, fun i hi => by
          by_cases hif : i = f
          · subst hif; exact hf
          · exact h2 i (by omega)⟩
      · exact .inr ⟨r, by omega, h2, h3, h4, fun i hi1 hi2 => by
          by_cases hif : i = f
          · subst hif; exact hf
          · exact h5 i (by omega) hi2⟩
theorem next_val (k : Nat) {a0 a1 a2 a3 : Int} (h : U4 a0 a1 a2 a3) (n : Int) (hk : 256 < k) (hn : n ≤ 100000) :
    (nums_Set_Next k a0 a1 a2 a3 n = some (-1) ∧ ∀ i : Nat, n ≤ i → mem a0 a1 a2 a3 i = false) ∨
    ∃ r : Nat, n ≤ r ∧ r < 256 ∧ nums_Set_Next k a0 a1 a2 a3 n = some (r : Int) ∧ mem a0 a1 a2 a3 r = true ∧ ∀ i : Nat, n ≤ i → i < r → mem a0 a1 a2 a3 i = false := by
  have e : (bif decide ((0 : Int) > n) then (0 : Int) else n) = (n.toNat : Int) := by
    rw [Bool.cond_decide]; split <;> omega
  have e2 : nums_Set_Next k a0 a1 a2 a3 n = nums_Set_Next_l0 (fun v => some v) (some (-1)) k k (n.toNat : Int) a0 a1 a2 a3 := by unfold nums_Set_Next; rw [e]
  rw [e2]
  rcases next_loop (fun v => some v) (some (-1)) k h (256 - n.toNat) k n.toNat rfl (by omega) with ⟨h1, h2⟩ | ⟨r, h1, h2, h3, h4, h5⟩
  · exact .inl ⟨h1, fun i hi => h2 i (by omega)⟩
  · exact .inr ⟨r, by omega, h2, h3, h4, fun i hi1 hi2 => h5 i (by omega) hi2⟩
/-! how many there are -/
def cntR (g : Nat → Bool) : Nat → Nat → Nat
  | _, 0 => 0
  | lo, n + 1 => (g lo).toNat + cntR g (lo + 1) n
theorem cntR_add (g : Nat → Bool) : ∀ (m lo n : Nat), cntR g lo (m + n) = cntR g lo m + cntR g (lo + m) n
  | 0, lo, n => by simp [cntR]
  | m + 1, lo, n => by
    rw [show m + 1 + n = (m + n) + 1 by omega]
    simp only [cntR]
    rw [cntR_add g m (lo + 1) n, show lo + 1 + m = lo + (m + 1) by omega]; omega
theorem cntR_congr {g g' : Nat → Bool} : ∀ (n lo lo' : Nat), (∀ i, i < n → g (lo + i) = g' (lo' + i)) → cntR g lo n = cntR g' lo' n
  | 0, _, _, _ => rfl
  | n + 1, lo, lo', h => by
    simp only [cntR]
    rw [show g lo = g' lo' from h 0 (by omega), cntR_congr n (lo + 1) (lo' + 1) (fun i hi => by have := h (i + 1) (by omega); rw [show lo + 1 + i = lo + (i + 1) by omega, show lo' + 1 + i = lo' + (i + 1) by omega]; exact this)]
theorem cntR_none {g : Nat → Bool} : ∀ (n lo : Nat), (∀ i, lo ≤ i → i < lo + n → g i = false) → cntR g lo n = 0
  | 0, _, _ => rfl
  | n + 1, lo, h => by
    simp only [cntR]
    rw [h lo (by omega) (by omega), cntR_none n (lo + 1) (fun i h1 h2 => h i (by omega) (by omega))]; rfl
theorem cntR_le (g : Nat → Bool) : ∀ (n lo : Nat), cntR g lo n ≤ n
  | 0, _ => Nat.le_refl _
  | n + 1, lo => by
    simp only [cntR]
    have := cntR_le g n (lo + 1)
    have : (g lo).toNat ≤ 1 := Bool.toNat_le _
    omega
def pcr : Nat → Nat → Nat
  | 0, _ => 0
  | n + 1, w => w % 2 + pcr n (w / 2)
theorem pcr_cnt : ∀ (n w : Nat), pcr n w = cntR w.testBit 0 n
  | 0, w => rfl
  | n + 1, w => by
    simp only [pcr, cntR]
    rw [pcr_cnt n (w / 2), cntR_congr (g := w.testBit) (g' := (w / 2).testBit) n (0 + 1) 0 (fun i hi => by rw [Nat.testBit_div_two]; congr 1; omega)]
    congr 1
    rw [Nat.testBit_zero]
    by_cases h : w % 2 = 1
    · simp [h]
    · have : w % 2 = 0 := by omega
      simp [this]
theorem pcr_less : ∀ (n w : Nat), w ≠ 0 → w < 2 ^ n → pcr n (w &&& (w - 1)) + 1 = pcr n w
  | 0, w, h0, h1 => by simp at h1; omega
  | n + 1, w, h0, h1 => by
    have hd : (w &&& (w - 1)) / 2 = w / 2 &&& (w - 1) / 2 := Nat.and_div_two
    have hp : 2 ^ (n + 1) = 2 * 2 ^ n := by rw [Nat.pow_succ]; omega
    simp only [pcr]
    rw [hd]
    by_cases hw : w % 2 = 1
    · have e1 : (w - 1) / 2 = w / 2 := by omega
      have e2 : (w &&& (w - 1)) % 2 = 0 := by
        have := Nat.and_mod_two_eq_one (a := w) (b := w - 1)
        have h2 : ¬ ((w &&& (w - 1)) % 2 = 1) := fun h => by have := this.1 h; omega
        omega
      rw [e1, e2, Nat.and_self]; omega
    · have e1 : (w - 1) / 2 = w / 2 - 1 := by omega
      have e2 : (w &&& (w - 1)) % 2 = 0 := by
        have := Nat.and_mod_two_eq_one (a := w) (b := w - 1)
        have h2 : ¬ ((w &&& (w - 1)) % 2 = 1) := fun h => by have := this.1 h; omega
        omega
      have := pcr_less n (w / 2) (by omega) (by omega)
      rw [e1, e2]; omega
theorem pcr_le : ∀ (n w : Nat), pcr n w ≤ n := fun n w => by rw [pcr_cnt]; exact cntR_le _ _ _
theorem count_word {R : Type} (e0 : Int → Int → Int → Int → Int → Int → Option R) (k : Nat) (a b c d e : Int) (m : Nat) : ∀ (j : Nat) (n : Int) (w : Nat), w < 2 ^ 64 → pcr 64 w = m → m < j → 0 ≤ n → n + m ≤ 100000 →
    nums_Set_Count_l2 e0 k j n (w : Int) a b c d e = e0 (n + m) a b c d e := by
  induction m with
  | zero =>
    intro j n w hw hm hj h0 hn
    obtain ⟨j, rfl⟩ : ∃ q, j = q + 1 := ⟨j - 1, by omega⟩
    have hw0 : w = 0 := by
      by_cases h : w = 0
      · exact h
      · have := pcr_less 64 w h hw; omega
    subst hw0
    show nums_Set_Count_l2s _ e0 k n 0 a b c d e = _
    simp only [nums_Set_Count_l2s, ← decide_not, Bool.cond_decide]
    rw [if_neg (by simp)]; simp
  | succ m ih =>
    intro j n w hw hm hj h0 hn
    obtain ⟨j, rfl⟩ : ∃ q, j = q + 1 := ⟨j - 1, by omega⟩
    have h64 : (2 : Nat) ^ 64 = 18446744073709551616 := by decide
    have hw0 : w ≠ 0 := fun h => by subst h; rw [pcr_cnt, cntR_none 64 0 (fun i _ _ => Nat.zero_testBit i)] at hm; omega
    have hl := pcr_less 64 w hw0 hw
    have hand : w &&& (w - 1) ≤ w := Nat.and_le_left
    have hrec := ih j (n + 1) (w &&& (w - 1)) (by omega) (by omega) (by omega) (by omega) (by omega)
    show nums_Set_Count_l2s _ e0 k n (w : Int) a b c d e = _
    simp only [nums_Set_Count_l2s, ← decide_not, Bool.cond_decide]
    have e1 : IntKind.u64.wrap ((w : Int) - 1) = ((w - 1 : Nat) : Int) := by
      rw [show (w : Int) - 1 = ((w - 1 : Nat) : Int) by omega]; exact u64_wrap (by omega)
    rw [if_pos (by omega), e1, u_and (by unfold UU; omega) (by unfold UU; omega), Int.toNat_natCast, Int.toNat_natCast, w64 (n := n + 1) (by omega) (by omega), hrec, show n + 1 + (m : Int) = n + ((m + 1 : Nat) : Int) by omega]
theorem count_val (k : Nat) {a0 a1 a2 a3 : Int} (h : U4 a0 a1 a2 a3) (hk : 70 < k) : nums_Set_Count k a0 a1 a2 a3 = some ((cntR (mem a0 a1 a2 a3) 0 256 : Nat) : Int) := by
  have h64 : (2 : Nat) ^ 64 = 18446744073709551616 := by decide
  have word : ∀ {R : Type} (e0 : Int → Int → Int → Int → Int → Int → Option R) (n w b c d e : Int) (i : Int), UU w → 0 ≤ n → n ≤ 1000 → nums_Set_Count_l2 e0 k k n w b c d e i = e0 (n + (pcr 64 w.toNat : Nat)) b c d e i := fun {R} e0 n w b c d e i hw h0 h1 => by
    have hp := pcr_le 64 w.toNat
    have e1 : w = (w.toNat : Int) := by unfold UU at hw; omega
    conv => lhs; rw [e1]
    exact count_word e0 k b c d e i _ k n w.toNat (by unfold UU at hw; omega) rfl (by omega) h0 (by omega)
  have p0 := pcr_le 64 a0.toNat
  have p1 := pcr_le 64 a1.toNat
  have p2 := pcr_le 64 a2.toNat
  have p3 := pcr_le 64 a3.toNat
  have e0 : nums_Set_Count k a0 a1 a2 a3 = nums_Set_Count_l0 (fun v => some v) k k 0 a0 a1 a2 a3 0 := rfl
  rw [e0]
  have go : ∀ j : Nat, nums_Set_Count_l0 (fun v => some v) k (j + 1 + 1 + 1 + 1 + 1) 0 a0 a1 a2 a3 0 = some (0 + ((pcr 64 a0.toNat : Nat) : Int) + ((pcr 64 a1.toNat : Nat) : Int) + ((pcr 64 a2.toNat : Nat) : Int) + ((pcr 64 a3.toNat : Nat) : Int)) := fun j => by
    have s0 : ∀ (j : Nat) (n : Int), 0 ≤ n → n ≤ 1000 → nums_Set_Count_l0 (fun v => some v) k (j + 1) n a0 a1 a2 a3 0 = nums_Set_Count_l0 (fun v => some v) k j (n + (pcr 64 a0.toNat : Nat)) a0 a1 a2 a3 1 := fun j n h0 h1 => by
      show nums_Set_Count_l0s (nums_Set_Count_l0 (fun v => some v) k j) (fun v => some v) k n a0 a1 a2 a3 0 = _
      simp only [nums_Set_Count_l0s, Bool.cond_decide, nums_Set_Count_j1, nums_Set_Count_k0, nums_Set_Count_j3]
      rw [if_pos (by decide), if_pos (by decide), word _ _ _ _ _ _ _ _ h.h0 h0 h1, w64 (n := (0 : Int) + 1) (by decide) (by decide)]; rfl
    have s1 : ∀ (j : Nat) (n : Int), 0 ≤ n → n ≤ 1000 → nums_Set_Count_l0 (fun v => some v) k (j + 1) n a0 a1 a2 a3 1 = nums_Set_Count_l0 (fun v => some v) k j (n + (pcr 64 a1.toNat : Nat)) a0 a1 a2 a3 2 := fun j n h0 h1 => by
      show nums_Set_Count_l0s (nums_Set_Count_l0 (fun v => some v) k j) (fun v => some v) k n a0 a1 a2 a3 1 = _
      simp only [nums_Set_Count_l0s, Bool.cond_decide, nums_Set_Count_j1, nums_Set_Count_k0, nums_Set_Count_j3]
      rw [if_pos (by decide), if_neg (by decide), if_pos (by decide), word _ _ _ _ _ _ _ _ h.h1 h0 h1, w64 (n := (1 : Int) + 1) (by decide) (by decide)]; rfl
    have s2 : ∀ (j : Nat) (n : Int), 0 ≤ n → n ≤ 1000 → nums_Set_Count_l0 (fun v => some v) k (j + 1) n a0 a1 a2 a3 2 = nums_Set_Count_l0 (fun v => some v) k j (n + (pcr 64 a2.toNat : Nat)) a0 a1 a2 a3 3 := fun j n h0 h1 => by
      show nums_Set_Count_l0s (nums_Set_Count_l0 (fun v => some v) k j) (fun v => some v) k n a0 a1 a2 a3 2 = _
      simp only [nums_Set_Count_l0s, Bool.cond_decide, nums_Set_Count_j1, nums_Set_Count_k0, nums_Set_Count_j3]
      rw [if_pos (by decide), if_neg (by decide), if_neg (by decide), if_pos (by decide), word _ _ _ _ _ _ _ _ h.h2 h0 h1, w64 (n := (2 : Int) + 1) (by decide) (by decide)]; rfl
    have s3 : ∀ (j : Nat) (n : Int), 0 ≤ n → n ≤ 1000 → nums_Set_Count_l0 (fun v => some v) k (j + 1) n a0 a1 a2 a3 3 = nums_Set_Count_l0 (fun v => some v) k j (n + (pcr 64 a3.toNat : Nat)) a0 a1 a2 a3 4 := fun j n h0 h1 => by
      show nums_Set_Count_l0s (nums_Set_Count_l0 (fun v => some v) k j) (fun v => some v) k n a0 a1 a2 a3 3 = _
      simp only [nums_Set_Count_l0s, Bool.cond_decide, nums_Set_Count_j1, nums_Set_Count_k0, nums_Set_Count_j3]
      rw [if_pos (by decide), if_neg (by decide), if_neg (by decide), if_neg (by decide), if_pos (by decide), word _ _ _ _ _ _ _ _ h.h3 h0 h1, w64 (n := (3 : Int) + 1) (by decide) (by decide)]; rfl
    rw [s0 _ _ (by omega) (by omega), s1 _ _ (by omega) (by omega), s2 _ _ (by omega) (by omega), s3 _ _ (by omega) (by omega)]
    show nums_Set_Count_l0s _ (fun v => some v) k _ a0 a1 a2 a3 4 = _
    simp only [nums_Set_Count_l0s, Bool.cond_decide]
    rw [if_neg (by decide)]
  obtain ⟨k', hk'⟩ : ∃ q, k = q + 1 + 1 + 1 + 1 + 1 := ⟨k - 5, by omega⟩
  have g := go k'
  rw [← hk'] at g
  rw [g]
  have hc : cntR (mem a0 a1 a2 a3) 0 256 = pcr 64 a0.toNat + (pcr 64 a1.toNat + (pcr 64 a2.toNat + pcr 64 a3.toNat)) := by
    have c0 : cntR (mem a0 a1 a2 a3) 0 64 = pcr 64 a0.toNat := (cntR_congr 64 0 0 (fun i hi => by unfold mem; rw [if_pos (by omega)])).trans (pcr_cnt 64 _).symm
    have c1 : cntR (mem a0 a1 a2 a3) (0 + 64) 64 = pcr 64 a1.toNat := (cntR_congr 64 (0 + 64) 0 (fun i hi => by unfold mem; rw [if_neg (by omega), if_pos (by omega), show 0 + 64 + i - 64 = 0 + i by omega])).trans (pcr_cnt 64 _).symm
    have c2 : cntR (mem a0 a1 a2 a3) (0 + 64 + 64) 64 = pcr 64 a2.toNat := (cntR_congr 64 (0 + 64 + 64) 0 (fun i hi => by unfold mem; rw [if_neg (by omega), if_neg (by omega), if_pos (by omega), show 0 + 64 + 64 + i - 128 = 0 + i by omega])).trans (pcr_cnt 64 _).symm
    have c3 : cntR (mem a0 a1 a2 a3) (0 + 64 + 64 + 64) 64 = pcr 64 a3.toNat := (cntR_congr 64 (0 + 64 + 64 + 64) 0 (fun i hi => by unfold mem; rw [if_neg (by omega), if_neg (by omega), if_neg (by omega), if_pos (by omega), show 0 + 64 + 64 + 64 + i - 192 = 0 + i by omega])).trans (pcr_cnt 64 _).symm
    have e := cntR_add (mem a0 a1 a2 a3) 64 0 (64 + (64 + 64))
    rw [cntR_add (mem a0 a1 a2 a3) 64 (0 + 64) (64 + 64), cntR_add (mem a0 a1 a2 a3) 64 (0 + 64 + 64) 64, c0, c1, c2, c3] at e
    exact e
  rw [hc]
  generalize pcr 64 a0.toNat = q0
  generalize pcr 64 a1.toNat = q1
  generalize pcr 64 a2.toNat = q2
  generalize pcr 64 a3.toNat = q3
  refine congrArg some ?_
  omega
theorem walk_loop {R : Type} (e0 : Bool → List Int → Bool → Int → Int → Int → Int → Int → Option R) (e1 : Bool → List Int → Int → Int → Int → Int → Int → Option R) (k : Nat) (hk : 300 < k) (nl : Bool) (L : List Int) {a0 a1 a2 a3 : Int} (h : U4 a0 a1 a2 a3) (T : Nat) (hT : T ≤ 256) (m : Nat) :
    ∀ (j : Nat) (n lo : Nat) (last cur : Int), 256 - lo = m → m < j → n + cntR (mem a0 a1 a2 a3) lo (256 - lo) = T → last < lo →
      (cur = -1 ∧ (∀ i : Nat, lo ≤ i → mem a0 a1 a2 a3 i = false) ∨ ∃ r : Nat, cur = r ∧ lo ≤ r ∧ r < 256 ∧ mem a0 a1 a2 a3 r = true ∧ ∀ i : Nat, lo ≤ i → i < r → mem a0 a1 a2 a3 i = false) →
      corbellaw01_NumsWalk_l0 e0 e1 k j nl L (n : Int) last cur a0 a1 a2 a3 = e1 nl L (T : Int) a0 a1 a2 a3 := by
  induction m using Nat.strongRecOn with
  | ind m ih =>
    intro j n lo last cur hm hj hn hl hc
    obtain ⟨j, rfl⟩ : ∃ q, j = q + 1 := ⟨j - 1, by omega⟩
    show corbellaw01_NumsWalk_l0s _ e0 e1 k nl L (n : Int) last cur a0 a1 a2 a3 = _
    simp only [corbellaw01_NumsWalk_l0s, Bool.cond_decide]
    rcases hc with ⟨rfl, hno⟩ | ⟨r, rfl, h1, h2, h3, h4⟩
    · rw [if_neg (by decide)]
      rw [cntR_none _ _ (fun i hi _ => hno i hi)] at hn
      congr 1; omega
    · rw [if_pos (by omega), if_neg (by omega), has_val k h]
      have hcnt : cntR (mem a0 a1 a2 a3) lo (256 - lo) = 1 + cntR (mem a0 a1 a2 a3) (r + 1) (256 - (r + 1)) := by
        rw [show 256 - lo = (r - lo) + ((256 - (r + 1)) + 1) by omega, cntR_add, cntR_none (r - lo) lo (fun i a b => h4 i a (by omega)), show lo + (r - lo) = r by omega]
        simp only [cntR, h3]; simp
      have hnT : n + (1 + cntR (mem a0 a1 a2 a3) (r + 1) (256 - (r + 1))) = T := by rw [← hcnt]; exact hn
      simp only [optb, Int.toNat_natCast, h3, Bool.and_true]
      rw [decide_eq_true (show 0 ≤ (r : Int) ∧ (r : Int) < 256 by omega), Bool.not_true, cond_false, decide_eq_false (show ¬ (256 : Int) < (n : Int) by omega)]
      show corbellaw01_NumsWalk_k1 _ e0 e1 k nl L (n : Int) (r : Int) a0 a1 a2 a3 = _
      unfold corbellaw01_NumsWalk_k1
      rw [w64 (n := (r : Int) + 1) (by omega) (by omega), w64 (n := (n : Int) + 1) (by omega) (by omega)]
      rcases next_val k h ((r : Int) + 1) (by omega) (by omega) with ⟨g1, g2⟩ | ⟨r', g1, g2, g3, g4, g5⟩
      · rw [g1]
        exact ih (256 - (r + 1)) (by omega) j (n + 1) (r + 1) (r : Int) (-1) rfl (by omega) (by omega) (by omega) (.inl ⟨rfl, fun i hi => g2 i (by omega)⟩)
      · rw [g3]
        exact ih (256 - (r + 1)) (by omega) j (n + 1) (r + 1) (r : Int) (r' : Int) rfl (by omega) (by omega) (by omega) (.inr ⟨r', rfl, by omega, g2, g4, fun i a b => g5 i (by omega) b⟩)
theorem all_loop {R : Type} (e0 : Bool → Int → Int → Int → Int → Int → Option R) (e1 : Int → Int → Int → Int → Int → Option R) (k : Nat) (nl : Bool) (L : List Int) (hL : L.length ≤ 1000) {a0 a1 a2 a3 : Int} (h : U4 a0 a1 a2 a3) (hq : ∀ q : Nat, mem a0 a1 a2 a3 q = true ↔ q < 256 ∧ (q : Int) ∈ L) (T : Int) (m : Nat) :
    ∀ (j i : Nat), L.length - i = m → i ≤ L.length → m < j → corbellaw01_NumsWalk_l2 e0 e1 k j nl L T (i : Int) a0 a1 a2 a3 = e1 T a0 a1 a2 a3 := by
  induction m with
  | zero =>
    intro j i hm hi hj
    obtain ⟨j, rfl⟩ : ∃ q, j = q + 1 := ⟨j - 1, by omega⟩
    show corbellaw01_NumsWalk_l2s _ e0 e1 k nl L T (i : Int) a0 a1 a2 a3 = _
    simp only [corbellaw01_NumsWalk_l2s, Bool.cond_decide, lenI_eq]
    rw [if_neg (by omega)]
  | succ m ih =>
    intro j i hm hi hj
    obtain ⟨j, rfl⟩ : ∃ q, j = q + 1 := ⟨j - 1, by omega⟩
    have hlt : i < L.length := by omega
    have hrec := ih j (i + 1) (by omega) hlt (by omega)
    show corbellaw01_NumsWalk_l2s _ e0 e1 k nl L T (i : Int) a0 a1 a2 a3 = _
    simp only [corbellaw01_NumsWalk_l2s, Bool.cond_decide, lenI_eq]
    rw [if_pos (by omega), if_pos (by omega), Int.toNat_natCast, List.getElem?_eq_getElem hlt]
    simp only [optb, has_val k h]
    rw [if_pos (by omega)]
    have hx : (decide (0 ≤ L[i] ∧ L[i] < 256) && mem a0 a1 a2 a3 (L[i]).toNat) = decide (0 ≤ L[i] ∧ L[i] < 256) := by
      by_cases hr : 0 ≤ L[i] ∧ L[i] < 256
      · rw [decide_eq_true hr, Bool.true_and, hq]
        refine ⟨by omega, ?_⟩
        rw [show ((L[i]).toNat : Int) = L[i] by omega]
        exact List.getElem_mem hlt
      · rw [decide_eq_false hr, Bool.false_and]
    rw [hx]
    have fin : corbellaw01_NumsWalk_j3 (corbellaw01_NumsWalk_k2 (corbellaw01_NumsWalk_l2 e0 e1 k j) e0 e1 k) (corbellaw01_NumsWalk_k3 (corbellaw01_NumsWalk_l2 e0 e1 k j) e0 e1 k) k nl L T (i : Int) false a0 a1 a2 a3 = e1 T a0 a1 a2 a3 := by
      show corbellaw01_NumsWalk_l2 e0 e1 k j nl L T (wrap64 ((i : Int) + 1)) a0 a1 a2 a3 = _
      rw [w64 (n := (i : Int) + 1) (by omega) (by omega)]
      exact hrec
    by_cases h0 : 0 ≤ L[i]
    · rw [if_pos h0, if_pos (by omega)]
      have : (!(decide (0 ≤ L[i] ∧ L[i] < 256) == decide (L[i] < 256))) = false := by
        by_cases h1 : L[i] < 256
        · rw [decide_eq_true (show 0 ≤ L[i] ∧ L[i] < 256 from ⟨h0, h1⟩), decide_eq_true h1]; rfl
        · rw [decide_eq_false (show ¬ (0 ≤ L[i] ∧ L[i] < 256) by omega), decide_eq_false h1]; rfl
      rw [this]; exact fin
    · rw [if_neg h0, decide_eq_false (show ¬ (0 ≤ L[i] ∧ L[i] < 256) by omega)]
      exact fin
theorem NumsWalk : NumsWalkPure := by
  intro x hx
  obtain ⟨d, hd⟩ : ∃ d : Nat, 20000 ≤ d := ⟨_, Nat.le_refl _⟩
  refine ⟨d + 300, ?_⟩
  unfold corbellaw01_NumsWalk
  rw [speaks01 d]
  simp only [optb, Bool.not_true, cond_false, Bool.cond_decide, lenI_eq]
  by_cases hl : (300 : Int) < x.2.length
  · rw [if_pos hl]
  rw [if_neg hl]
  obtain ⟨b0, b1, b2, b3, h1, h2, h3⟩ := of_val (d + 300) x.1 x.2 (by omega) (by omega)
  rw [h1]
  simp only
  have hc := count_val (d + 300) h2 (by omega)
  have hle := cntR_le (mem b0 b1 b2 b3) 256 0
  have fin : ∀ cur : Int, (cur = -1 ∧ (∀ i : Nat, 0 ≤ i → mem b0 b1 b2 b3 i = false) ∨ ∃ r : Nat, cur = r ∧ 0 ≤ r ∧ r < 256 ∧ mem b0 b1 b2 b3 r = true ∧ ∀ i : Nat, 0 ≤ i → i < r → mem b0 b1 b2 b3 i = false) →
      corbellaw01_NumsWalk_l0 (fun v846 v847 v848 v849 v850 v851 v852 v853 => some v848) (fun v854 v855 v856 v857 v858 v859 v860 =>
        corbellaw01_NumsWalk_l2 (fun v915 v916 v917 v918 v919 v920 => some v915) (fun v921 v922 v923 v924 v925 => optb (nums_Set_Count (d + 300) v922 v923 v924 v925) fun r_926 => some (decide (v921 = r_926))) (d + 300) (d + 300) v854 v855 v856 0 v857 v858 v859 v860)
        (d + 300) (d + 300) x.1 x.2 0 (-1) cur b0 b1 b2 b3 = some true := fun cur hcur => by
    refine (walk_loop _ _ (d + 300) (by omega) x.1 x.2 h2 (cntR (mem b0 b1 b2 b3) 0 256) hle 256 (d + 300) 0 0 (-1) cur rfl (by omega) (by simp) (by omega) hcur).trans ?_
    refine (all_loop _ _ (d + 300) x.1 x.2 (by omega) h2 h3 _ x.2.length (d + 300) 0 rfl (by omega) (by omega)).trans ?_
    rw [hc]
    simp [optb]
  rcases next_val (d + 300) h2 (-5) (by omega) (by decide) with ⟨g1, g2⟩ | ⟨r, g1, g2, g3, g4, g5⟩
  · rw [g1]; exact fin _ (.inl ⟨rfl, fun i _ => g2 i (by omega)⟩)
  · rw [g3]; exact fin _ (.inr ⟨r, rfl, by omega, g2, g4, fun i _ hi => g5 i (by omega) hi⟩)
end Go.Proofs.Ytncdfikcdchimaa.Pure
