/- NumsPuts: the pure statement, over numbers and lists alone; no conditions. -/
import Derived.Test.YtncdfikcdchimaaStatNumsPuts
set_option linter.unusedVariables false
set_option linter.unusedSimpArgs false
namespace Go.Proofs.Ytncdfikcdchimaa.Pure
open Go Go.RowKit Go.Proofs.Ytncdfikcdchimaa.Ev
/-! ### whole numbers -/
theorem wf_i64 {n : Int} (h : Ty.wf (.int .i64) n) : -9223372036854775808 ≤ n ∧ n ≤ 9223372036854775807 := by
  have h : (Lit.int .i64 n).wf = true := h
  simpa [Lit.wf, IntKind.min, IntKind.max, IntKind.signed, IntKind.bits] using h
theorem w64 {n : Int} (h0 : -9223372036854775808 ≤ n) (h1 : n ≤ 9223372036854775807) : wrap64 n = n := by unfold wrap64; omega
theorem tdiv_pos {a b : Int} (ha : 0 ≤ a) : Int.tdiv a b = a / b := Int.tdiv_eq_ediv_of_nonneg ha
theorem tmod_pos {a b : Int} (ha : 0 ≤ a) : Int.tmod a b = a % b := Int.tmod_eq_emod_of_nonneg ha
theorem bytesOf_append (a b : List Int) : bytesOf a ++ bytesOf b = bytesOf (a ++ b) := by
  apply ByteArray.ext
  simp [bytesOf]
theorem cond_t {α : Type} {c : Bool} {a b : α} (h : c = true) : (bif c then a else b) = a := by rw [h]; rfl
theorem cond_f {α : Type} {c : Bool} {a b : α} (h : c = false) : (bif c then a else b) = b := by rw [h]; rfl
theorem shr_eq {n : Int} {t : Int} (h0 : 0 ≤ t) (h1 : t < 64) : shrv .i64 n t = n / (2 ^ t.toNat) := by
  unfold shrv
  have : min t.toNat IntKind.i64.bits = t.toNat := by
    have : IntKind.i64.bits = 64 := rfl
    omega
  rw [this]
theorem u8_mod (x : Int) : IntKind.u8.wrap (x % 256) = IntKind.u8.wrap x := by
  simp [IntKind.wrap, IntKind.signed, IntKind.bits]
def putR (n s : Int) (l : List Int) : Option ByteArray := bif decide (n < 0) then some ⟨#[]⟩ else bif !(decide (shrv .i64 n s = 0)) then some ⟨#[]⟩ else some (bytesOf l)
def refR (n q : Int) (b : ByteArray) : Option ByteArray := bif decide (n < 0) then some ⟨#[]⟩ else bif decide (0 < q) then some ⟨#[]⟩ else some b
theorem speaks01 (d : Nat) : corbellaw01_speaks (d + 300) = some true := by kernel_rfl
theorem put_low (d : Nat) (n w : Int) (h : w < 1) : nums_Put (d + 300) n w = some ⟨#[]⟩ := cond_t (decide_eq_true h)
theorem put_high (d : Nat) (n w : Int) (h0 : ¬ w < 1) (h : 7 < w) : nums_Put (d + 300) n w = some ⟨#[]⟩ := (cond_f (decide_eq_false h0)).trans (cond_t (decide_eq_true h))
theorem ref_low (d : Nat) (n w : Int) (h : w < 1) : corbelref01_Put (d + 300) n w = some ⟨#[]⟩ := cond_t (decide_eq_true h)
theorem ref_high (d : Nat) (n w : Int) (h0 : ¬ w < 1) (h : 7 < w) : corbelref01_Put (d + 300) n w = some ⟨#[]⟩ := (cond_f (decide_eq_false h0)).trans (cond_t (decide_eq_true h))
theorem step (m : Int) (h0 : 0 ≤ m) (h1 : m ≤ 9223372036854775807) : wrap64 (Int.tdiv m 256) = m / 256 ∧ 0 ≤ m / 256 ∧ m / 256 ≤ 9223372036854775807 := by
  rw [tdiv_pos h0, w64 (by omega) (by omega)]; omega
theorem put_1 (d : Nat) (n : Int) : nums_Put (d + 300) n 1 = putR n 8 [IntKind.u8.wrap (shrv .i64 n 0)] := by kernel_rfl
theorem ref_1 (d : Nat) (n : Int) : corbelref01_Put (d + 300) n 1 = refR n (wrap64 (Int.tdiv n 256)) (bytesOf [IntKind.u8.wrap (Int.tmod n 256)] ++ (⟨#[]⟩ : ByteArray)) := by kernel_rfl
theorem eq_1 (n : Int) (h : n ≤ 9223372036854775807) : refR n (wrap64 (Int.tdiv n 256)) (bytesOf [IntKind.u8.wrap (Int.tmod n 256)] ++ (⟨#[]⟩ : ByteArray)) = putR n 8 [IntKind.u8.wrap (shrv .i64 n 0)] := by
  unfold putR refR
  by_cases h0 : n < 0
  · rw [decide_eq_true h0]; rfl
  · rw [decide_eq_false h0]
    simp only [cond_false]
    have p0 : (0 : Int) ≤ n := by omega
    have q0 := h
    obtain ⟨e0, p1, q1⟩ := step _ p0 q0
    simp only [e0, tmod_pos p0]
    rw [show (⟨#[]⟩ : ByteArray) = bytesOf [] from rfl]
    simp only [bytesOf_append, u8_mod, List.cons_append, List.nil_append]
    simp only [shr_eq (t := 8) (by omega) (by omega), shr_eq (t := 0) (by omega) (by omega)]
    simp only [show (2 : Int) ^ Int.toNat 0 = 1 from by decide, show (2 : Int) ^ Int.toNat 8 = 256 from by decide]
    have d0 : n / 1 = n := by omega
    simp only [d0]
    have dd : decide (0 < n / 256) = !decide (n / 256 = 0) := by
      by_cases hq : n / 256 = 0
      · rw [hq]; rfl
      · rw [decide_eq_false hq, decide_eq_true (by omega)]; rfl
    rw [dd]
theorem put_2 (d : Nat) (n : Int) : nums_Put (d + 300) n 2 = putR n 16 [IntKind.u8.wrap (shrv .i64 n 8), IntKind.u8.wrap (shrv .i64 n 0)] := by kernel_rfl
theorem ref_2 (d : Nat) (n : Int) : corbelref01_Put (d + 300) n 2 = refR n (wrap64 (Int.tdiv (wrap64 (Int.tdiv n 256)) 256)) (bytesOf [IntKind.u8.wrap (Int.tmod (wrap64 (Int.tdiv n 256)) 256)] ++ (bytesOf [IntKind.u8.wrap (Int.tmod n 256)] ++ (⟨#[]⟩ : ByteArray))) := by kernel_rfl
theorem eq_2 (n : Int) (h : n ≤ 9223372036854775807) : refR n (wrap64 (Int.tdiv (wrap64 (Int.tdiv n 256)) 256)) (bytesOf [IntKind.u8.wrap (Int.tmod (wrap64 (Int.tdiv n 256)) 256)] ++ (bytesOf [IntKind.u8.wrap (Int.tmod n 256)] ++ (⟨#[]⟩ : ByteArray))) = putR n 16 [IntKind.u8.wrap (shrv .i64 n 8), IntKind.u8.wrap (shrv .i64 n 0)] := by
  unfold putR refR
  by_cases h0 : n < 0
  · rw [decide_eq_true h0]; rfl
  · rw [decide_eq_false h0]
    simp only [cond_false]
    have p0 : (0 : Int) ≤ n := by omega
    have q0 := h
    obtain ⟨e0, p1, q1⟩ := step _ p0 q0
    obtain ⟨e1, p2, q2⟩ := step _ p1 q1
    simp only [e0, e1, tmod_pos p0, tmod_pos p1]
    rw [show (⟨#[]⟩ : ByteArray) = bytesOf [] from rfl]
    simp only [bytesOf_append, u8_mod, List.cons_append, List.nil_append]
    simp only [shr_eq (t := 16) (by omega) (by omega), shr_eq (t := 0) (by omega) (by omega), shr_eq (t := 8) (by omega) (by omega)]
    simp only [show (2 : Int) ^ Int.toNat 0 = 1 from by decide, show (2 : Int) ^ Int.toNat 8 = 256 from by decide, show (2 : Int) ^ Int.toNat 16 = 65536 from by decide]
    have d2 : n / 256 / 256 = n / 65536 := by omega
    have d0 : n / 1 = n := by omega
    simp only [d0, d2]
    have dd : decide (0 < n / 65536) = !decide (n / 65536 = 0) := by
      by_cases hq : n / 65536 = 0
      · rw [hq]; rfl
      · rw [decide_eq_false hq, decide_eq_true (by omega)]; rfl
    rw [dd]
theorem put_3 (d : Nat) (n : Int) : nums_Put (d + 300) n 3 = putR n 24 [IntKind.u8.wrap (shrv .i64 n 16), IntKind.u8.wrap (shrv .i64 n 8), IntKind.u8.wrap (shrv .i64 n 0)] := by kernel_rfl
theorem ref_3 (d : Nat) (n : Int) : corbelref01_Put (d + 300) n 3 = refR n (wrap64 (Int.tdiv (wrap64 (Int.tdiv (wrap64 (Int.tdiv n 256)) 256)) 256)) (bytesOf [IntKind.u8.wrap (Int.tmod (wrap64 (Int.tdiv (wrap64 (Int.tdiv n 256)) 256)) 256)] ++ (bytesOf [IntKind.u8.wrap (Int.tmod (wrap64 (Int.tdiv n 256)) 256)] ++ (bytesOf [IntKind.u8.wrap (Int.tmod n 256)] ++ (⟨#[]⟩ : ByteArray)))) := by kernel_rfl
theorem eq_3 (n : Int) (h : n ≤ 9223372036854775807) : refR n (wrap64 (Int.tdiv (wrap64 (Int.tdiv (wrap64 (Int.tdiv n 256)) 256)) 256)) (bytesOf [IntKind.u8.wrap (Int.tmod (wrap64 (Int.tdiv (wrap64 (Int.tdiv n 256)) 256)) 256)] ++ (bytesOf [IntKind.u8.wrap (Int.tmod (wrap64 (Int.tdiv n 256)) 256)] ++ (bytesOf [IntKind.u8.wrap (Int.tmod n 256)] ++ (⟨#[]⟩ : ByteArray)))) = putR n 24 [IntKind.u8.wrap (shrv .i64 n 16), IntKind.u8.wrap (shrv .i64 n 8), IntKind.u8.wrap (shrv .i64 n 0)] := by
  unfold putR refR
  by_cases h0 : n < 0
  · rw [decide_eq_true h0]; rfl
  · rw [decide_eq_false h0]
    simp only [cond_false]
    have p0 : (0 : Int) ≤ n := by omega
    have q0 := h
    obtain ⟨e0, p1, q1⟩ := step _ p0 q0
    obtain ⟨e1, p2, q2⟩ := step _ p1 q1
    obtain ⟨e2, p3, q3⟩ := step _ p2 q2
    simp only [e0, e1, e2, tmod_pos p0, tmod_pos p1, tmod_pos p2]
    rw [show (⟨#[]⟩ : ByteArray) = bytesOf [] from rfl]
    simp only [bytesOf_append, u8_mod, List.cons_append, List.nil_append]
    simp only [shr_eq (t := 24) (by omega) (by omega), shr_eq (t := 0) (by omega) (by omega), shr_eq (t := 8) (by omega) (by omega), shr_eq (t := 16) (by omega) (by omega)]
    simp only [show (2 : Int) ^ Int.toNat 0 = 1 from by decide, show (2 : Int) ^ Int.toNat 8 = 256 from by decide, show (2 : Int) ^ Int.toNat 16 = 65536 from by decide, show (2 : Int) ^ Int.toNat 24 = 16777216 from by decide]
    have d2 : n / 256 / 256 = n / 65536 := by omega
    have d3 : n / 65536 / 256 = n / 16777216 := by omega
    have d0 : n / 1 = n := by omega
    simp only [d0, d2, d3]
    have dd : decide (0 < n / 16777216) = !decide (n / 16777216 = 0) := by
      by_cases hq : n / 16777216 = 0
      · rw [hq]; rfl
      · rw [decide_eq_false hq, decide_eq_true (by omega)]; rfl
    rw [dd]
theorem put_4 (d : Nat) (n : Int) : nums_Put (d + 300) n 4 = putR n 32 [IntKind.u8.wrap (shrv .i64 n 24), IntKind.u8.wrap (shrv .i64 n 16), IntKind.u8.wrap (shrv .i64 n 8), IntKind.u8.wrap (shrv .i64 n 0)] := by kernel_rfl
theorem ref_4 (d : Nat) (n : Int) : corbelref01_Put (d + 300) n 4 = refR n (wrap64 (Int.tdiv (wrap64 (Int.tdiv (wrap64 (Int.tdiv (wrap64 (Int.tdiv n 256)) 256)) 256)) 256)) (bytesOf [IntKind.u8.wrap (Int.tmod (wrap64 (Int.tdiv (wrap64 (Int.tdiv (wrap64 (Int.tdiv n 256)) 256)) 256)) 256)] ++ (bytesOf [IntKind.u8.wrap (Int.tmod (wrap64 (Int.tdiv (wrap64 (Int.tdiv n 256)) 256)) 256)] ++ (bytesOf [IntKind.u8.wrap (Int.tmod (wrap64 (Int.tdiv n 256)) 256)] ++ (bytesOf [IntKind.u8.wrap (Int.tmod n 256)] ++ (⟨#[]⟩ : ByteArray))))) := by kernel_rfl
theorem eq_4 (n : Int) (h : n ≤ 9223372036854775807) : refR n (wrap64 (Int.tdiv (wrap64 (Int.tdiv (wrap64 (Int.tdiv (wrap64 (Int.tdiv n 256)) 256)) 256)) 256)) (bytesOf [IntKind.u8.wrap (Int.tmod (wrap64 (Int.tdiv (wrap64 (Int.tdiv (wrap64 (Int.tdiv n 256)) 256)) 256)) 256)] ++ (bytesOf [IntKind.u8.wrap (Int.tmod (wrap64 (Int.tdiv (wrap64 (Int.tdiv n 256)) 256)) 256)] ++ (bytesOf [IntKind.u8.wrap (Int.tmod (wrap64 (Int.tdiv n 256)) 256)] ++ (bytesOf [IntKind.u8.wrap (Int.tmod n 256)] ++ (⟨#[]⟩ : ByteArray))))) = putR n 32 [IntKind.u8.wrap (shrv .i64 n 24), IntKind.u8.wrap (shrv .i64 n 16), IntKind.u8.wrap (shrv .i64 n 8), IntKind.u8.wrap (shrv .i64 n 0)] := by
  unfold putR refR
  by_cases h0 : n < 0
  · rw [decide_eq_true h0]; rfl
  · rw [decide_eq_false h0]
    simp only [cond_false]
    have p0 : (0 : Int) ≤ n := by omega
    have q0 := h
    obtain ⟨e0, p1, q1⟩ := step _ p0 q0
    obtain ⟨e1, p2, q2⟩ := step _ p1 q1
    obtain ⟨e2, p3, q3⟩ := step _ p2 q2
    obtain ⟨e3, p4, q4⟩ := step _ p3 q3
    simp only [e0, e1, e2, e3, tmod_pos p0, tmod_pos p1, tmod_pos p2, tmod_pos p3]
    rw [show (⟨#[]⟩ : ByteArray) = bytesOf [] from rfl]
    simp only [bytesOf_append, u8_mod, List.cons_append, List.nil_append]
    simp only [shr_eq (t := 32) (by omega) (by omega), shr_eq (t := 0) (by omega) (by omega), shr_eq (t := 8) (by omega) (by omega), shr_eq (t := 16) (by omega) (by omega), shr_eq (t := 24) (by omega) (by omega)]
    simp only [show (2 : Int) ^ Int.toNat 0 = 1 from by decide, show (2 : Int) ^ Int.toNat 8 = 256 from by decide, show (2 : Int) ^ Int.toNat 16 = 65536 from by decide, show (2 : Int) ^ Int.toNat 24 = 16777216 from by decide, show (2 : Int) ^ Int.toNat 32 = 4294967296 from by decide]
    have d2 : n / 256 / 256 = n / 65536 := by omega
    have d3 : n / 65536 / 256 = n / 16777216 := by omega
    have d4 : n / 16777216 / 256 = n / 4294967296 := by omega
    have d0 : n / 1 = n := by omega
    simp only [d0, d2, d3, d4]
    have dd : decide (0 < n / 4294967296) = !decide (n / 4294967296 = 0) := by
      by_cases hq : n / 4294967296 = 0
      · rw [hq]; rfl
      · rw [decide_eq_false hq, decide_eq_true (by omega)]; rfl
    rw [dd]
theorem put_5 (d : Nat) (n : Int) : nums_Put (d + 300) n 5 = putR n 40 [IntKind.u8.wrap (shrv .i64 n 32), IntKind.u8.wrap (shrv .i64 n 24), IntKind.u8.wrap (shrv .i64 n 16), IntKind.u8.wrap (shrv .i64 n 8), IntKind.u8.wrap (shrv .i64 n 0)] := by kernel_rfl
theorem ref_5 (d : Nat) (n : Int) : corbelref01_Put (d + 300) n 5 = refR n (wrap64 (Int.tdiv (wrap64 (Int.tdiv (wrap64 (Int.tdiv (wrap64 (Int.tdiv (wrap64 (Int.tdiv n 256)) 256)) 256)) 256)) 256)) (bytesOf [IntKind.u8.wrap (Int.tmod (wrap64 (Int.tdiv (wrap64 (Int.tdiv (wrap64 (Int.tdiv (wrap64 (Int.tdiv n 256)) 256)) 256)) 256)) 256)] ++ (bytesOf [IntKind.u8.wrap (Int.tmod (wrap64 (Int.tdiv (wrap64 (Int.tdiv (wrap64 (Int.tdiv n 256)) 256)) 256)) 256)] ++ (bytesOf [IntKind.u8.wrap (Int.tmod (wrap64 (Int.tdiv (wrap64 (Int.tdiv n 256)) 256)) 256)] ++ (bytesOf [IntKind.u8.wrap (Int.tmod (wrap64 (Int.tdiv n 256)) 256)] ++ (bytesOf [IntKind.u8.wrap (Int.tmod n 256)] ++ (⟨#[]⟩ : ByteArray)))))) := by kernel_rfl
theorem eq_5 (n : Int) (h : n ≤ 9223372036854775807) : refR n (wrap64 (Int.tdiv (wrap64 (Int.tdiv (wrap64 (Int.tdiv (wrap64 (Int.tdiv (wrap64 (Int.tdiv n 256)) 256)) 256)) 256)) 256)) (bytesOf [IntKind.u8.wrap (Int.tmod (wrap64 (Int.tdiv (wrap64 (Int.tdiv (wrap64 (Int.tdiv (wrap64 (Int.tdiv n 256)) 256)) 256)) 256)) 256)] ++ (bytesOf [IntKind.u8.wrap (Int.tmod (wrap64 (Int.tdiv (wrap64 (Int.tdiv (wrap64 (Int.tdiv n 256)) 256)) 256)) 256)] ++ (bytesOf [IntKind.u8.wrap (Int.tmod (wrap64 (Int.tdiv (wrap64 (Int.tdiv n 256)) 256)) 256)] ++ (bytesOf [IntKind.u8.wrap (Int.tmod (wrap64 (Int.tdiv n 256)) 256)] ++ (bytesOf [IntKind.u8.wrap (Int.tmod n 256)] ++ (⟨#[]⟩ : ByteArray)))))) = putR n 40 [IntKind.u8.wrap (shrv .i64 n 32), IntKind.u8.wrap (shrv .i64 n 24), IntKind.u8.wrap (shrv .i64 n 16), IntKind.u8.wrap (shrv .i64 n 8), IntKind.u8.wrap (shrv .i64 n 0)] := by
  unfold putR refR
  by_cases h0 : n < 0
  · rw [decide_eq_true h0]; rfl
  · rw [decide_eq_false h0]
    simp only [cond_false]
    have p0 : (0 : Int) ≤ n := by omega
    have q0 := h
    obtain ⟨e0, p1, q1⟩ := step _ p0 q0
    obtain ⟨e1, p2, q2⟩ := step _ p1 q1
    obtain ⟨e2, p3, q3⟩ := step _ p2 q2
    obtain ⟨e3, p4, q4⟩ := step _ p3 q3
    obtain ⟨e4, p5, q5⟩ := step _ p4 q4
    simp only [e0, e1, e2, e3, e4, tmod_pos p0, tmod_pos p1, tmod_pos p2, tmod_pos p3, tmod_pos p4]
    rw [show (⟨#[]⟩ : ByteArray) = bytesOf [] from rfl]
    simp only [bytesOf_append, u8_mod, List.cons_append, List.nil_append]
    simp only [shr_eq (t := 40) (by omega) (by omega), shr_eq (t := 0) (by omega) (by omega), shr_eq (t := 8) (by omega) (by omega), shr_eq (t := 16) (by omega) (by omega), shr_eq (t := 24) (by omega) (by omega), shr_eq (t := 32) (by omega) (by omega)]
    simp only [show (2 : Int) ^ Int.toNat 0 = 1 from by decide, show (2 : Int) ^ Int.toNat 8 = 256 from by decide, show (2 : Int) ^ Int.toNat 16 = 65536 from by decide, show (2 : Int) ^ Int.toNat 24 = 16777216 from by decide, show (2 : Int) ^ Int.toNat 32 = 4294967296 from by decide, show (2 : Int) ^ Int.toNat 40 = 1099511627776 from by decide]
    have d2 : n / 256 / 256 = n / 65536 := by omega
    have d3 : n / 65536 / 256 = n / 16777216 := by omega
    have d4 : n / 16777216 / 256 = n / 4294967296 := by omega
    have d5 : n / 4294967296 / 256 = n / 1099511627776 := by omega
    have d0 : n / 1 = n := by omega
    simp only [d0, d2, d3, d4, d5]
    have dd : decide (0 < n / 1099511627776) = !decide (n / 1099511627776 = 0) := by
      by_cases hq : n / 1099511627776 = 0
      · rw [hq]; rfl
      · rw [decide_eq_false hq, decide_eq_true (by omega)]; rfl
    rw [dd]
theorem put_6 (d : Nat) (n : Int) : nums_Put (d + 300) n 6 = putR n 48 [IntKind.u8.wrap (shrv .i64 n 40), IntKind.u8.wrap (shrv .i64 n 32), IntKind.u8.wrap (shrv .i64 n 24), IntKind.u8.wrap (shrv .i64 n 16), IntKind.u8.wrap (shrv .i64 n 8), IntKind.u8.wrap (shrv .i64 n 0)] := by kernel_rfl
theorem ref_6 (d : Nat) (n : Int) : corbelref01_Put (d + 300) n 6 = refR n (wrap64 (Int.tdiv (wrap64 (Int.tdiv (wrap64 (Int.tdiv (wrap64 (Int.tdiv (wrap64 (Int.tdiv (wrap64 (Int.tdiv n 256)) 256)) 256)) 256)) 256)) 256)) (bytesOf [IntKind.u8.wrap (Int.tmod (wrap64 (Int.tdiv (wrap64 (Int.tdiv (wrap64 (Int.tdiv (wrap64 (Int.tdiv (wrap64 (Int.tdiv n 256)) 256)) 256)) 256)) 256)) 256)] ++ (bytesOf [IntKind.u8.wrap (Int.tmod (wrap64 (Int.tdiv (wrap64 (Int.tdiv (wrap64 (Int.tdiv (wrap64 (Int.tdiv n 256)) 256)) 256)) 256)) 256)] ++ (bytesOf [IntKind.u8.wrap (Int.tmod (wrap64 (Int.tdiv (wrap64 (Int.tdiv (wrap64 (Int.tdiv n 256)) 256)) 256)) 256)] ++ (bytesOf [IntKind.u8.wrap (Int.tmod (wrap64 (Int.tdiv (wrap64 (Int.tdiv n 256)) 256)) 256)] ++ (bytesOf [IntKind.u8.wrap (Int.tmod (wrap64 (Int.tdiv n 256)) 256)] ++ (bytesOf [IntKind.u8.wrap (Int.tmod n 256)] ++ (⟨#[]⟩ : ByteArray))))))) := by kernel_rfl
theorem eq_6 (n : Int) (h : n ≤ 9223372036854775807) : refR n (wrap64 (Int.tdiv (wrap64 (Int.tdiv (wrap64 (Int.tdiv (wrap64 (Int.tdiv (wrap64 (Int.tdiv (wrap64 (Int.tdiv n 256)) 256)) 256)) 256)) 256)) 256)) (bytesOf [IntKind.u8.wrap (Int.tmod (wrap64 (Int.tdiv (wrap64 (Int.tdiv (wrap64 (Int.tdiv (wrap64 (Int.tdiv (wrap64 (Int.tdiv n 256)) 256)) 256)) 256)) 256)) 256)] ++ (bytesOf [IntKind.u8.wrap (Int.tmod (wrap64 (Int.tdiv (wrap64 (Int.tdiv (wrap64 (Int.tdiv (wrap64 (Int.tdiv n 256)) 256)) 256)) 256)) 256)] ++ (bytesOf [IntKind.u8.wrap (Int.tmod (wrap64 (Int.tdiv (wrap64 (Int.tdiv (wrap64 (Int.tdiv n 256)) 256)) 256)) 256)] ++ (bytesOf [IntKind.u8.wrap (Int.tmod (wrap64 (Int.tdiv (wrap64 (Int.tdiv n 256)) 256)) 256)] ++ (bytesOf [IntKind.u8.wrap (Int.tmod (wrap64 (Int.tdiv n 256)) 256)] ++ (bytesOf [IntKind.u8.wrap (Int.tmod n 256)] ++ (⟨#[]⟩ : ByteArray))))))) = putR n 48 [IntKind.u8.wrap (shrv .i64 n 40), IntKind.u8.wrap (shrv .i64 n 32), IntKind.u8.wrap (shrv .i64 n 24), IntKind.u8.wrap (shrv .i64 n 16), IntKind.u8.wrap (shrv .i64 n 8), IntKind.u8.wrap (shrv .i64 n 0)] := by
  unfold putR refR
  by_cases h0 : n < 0
  · rw [decide_eq_true h0]; rfl
  · rw [decide_eq_false h0]
    simp only [cond_false]
    have p0 : (0 : Int) ≤ n := by omega
    have q0 := h
    obtain ⟨e0, p1, q1⟩ := step _ p0 q0
    obtain ⟨e1, p2, q2⟩ := step _ p1 q1
    obtain ⟨e2, p3, q3⟩ := step _ p2 q2
    obtain ⟨e3, p4, q4⟩ := step _ p3 q3
    obtain ⟨e4, p5, q5⟩ := step _ p4 q4
    obtain ⟨e5, p6, q6⟩ := step _ p5 q5
    simp only [e0, e1, e2, e3, e4, e5, tmod_pos p0, tmod_pos p1, tmod_pos p2, tmod_pos p3, tmod_pos p4, tmod_pos p5]
    rw [show (⟨#[]⟩ : ByteArray) = bytesOf [] from rfl]
    simp only [bytesOf_append, u8_mod, List.cons_append, List.nil_append]
    simp only [shr_eq (t := 48) (by omega) (by omega), shr_eq (t := 0) (by omega) (by omega), shr_eq (t := 8) (by omega) (by omega), shr_eq (t := 16) (by omega) (by omega), shr_eq (t := 24) (by omega) (by omega), shr_eq (t := 32) (by omega) (by omega), shr_eq (t := 40) (by omega) (by omega)]
    simp only [show (2 : Int) ^ Int.toNat 0 = 1 from by decide, show (2 : Int) ^ Int.toNat 8 = 256 from by decide, show (2 : Int) ^ Int.toNat 16 = 65536 from by decide, show (2 : Int) ^ Int.toNat 24 = 16777216 from by decide, show (2 : Int) ^ Int.toNat 32 = 4294967296 from by decide, show (2 : Int) ^ Int.toNat 40 = 1099511627776 from by decide, show (2 : Int) ^ Int.toNat 48 = 281474976710656 from by decide]
    have d2 : n / 256 / 256 = n / 65536 := by omega
    have d3 : n / 65536 / 256 = n / 16777216 := by omega
    have d4 : n / 16777216 / 256 = n / 4294967296 := by omega
    have d5 : n / 4294967296 / 256 = n / 1099511627776 := by omega
    have d6 : n / 1099511627776 / 256 = n / 281474976710656 := by omega
    have d0 : n / 1 = n := by omega
    simp only [d0, d2, d3, d4, d5, d6]
    have dd : decide (0 < n / 281474976710656) = !decide (n / 281474976710656 = 0) := by
      by_cases hq : n / 281474976710656 = 0
      · rw [hq]; rfl
      · rw [decide_eq_false hq, decide_eq_true (by omega)]; rfl
    rw [dd]
theorem put_7 (d : Nat) (n : Int) : nums_Put (d + 300) n 7 = putR n 56 [IntKind.u8.wrap (shrv .i64 n 48), IntKind.u8.wrap (shrv .i64 n 40), IntKind.u8.wrap (shrv .i64 n 32), IntKind.u8.wrap (shrv .i64 n 24), IntKind.u8.wrap (shrv .i64 n 16), IntKind.u8.wrap (shrv .i64 n 8), IntKind.u8.wrap (shrv .i64 n 0)] := by kernel_rfl
theorem ref_7 (d : Nat) (n : Int) : corbelref01_Put (d + 300) n 7 = refR n (wrap64 (Int.tdiv (wrap64 (Int.tdiv (wrap64 (Int.tdiv (wrap64 (Int.tdiv (wrap64 (Int.tdiv (wrap64 (Int.tdiv (wrap64 (Int.tdiv n 256)) 256)) 256)) 256)) 256)) 256)) 256)) (bytesOf [IntKind.u8.wrap (Int.tmod (wrap64 (Int.tdiv (wrap64 (Int.tdiv (wrap64 (Int.tdiv (wrap64 (Int.tdiv (wrap64 (Int.tdiv (wrap64 (Int.tdiv n 256)) 256)) 256)) 256)) 256)) 256)) 256)] ++ (bytesOf [IntKind.u8.wrap (Int.tmod (wrap64 (Int.tdiv (wrap64 (Int.tdiv (wrap64 (Int.tdiv (wrap64 (Int.tdiv (wrap64 (Int.tdiv n 256)) 256)) 256)) 256)) 256)) 256)] ++ (bytesOf [IntKind.u8.wrap (Int.tmod (wrap64 (Int.tdiv (wrap64 (Int.tdiv (wrap64 (Int.tdiv (wrap64 (Int.tdiv n 256)) 256)) 256)) 256)) 256)] ++ (bytesOf [IntKind.u8.wrap (Int.tmod (wrap64 (Int.tdiv (wrap64 (Int.tdiv (wrap64 (Int.tdiv n 256)) 256)) 256)) 256)] ++ (bytesOf [IntKind.u8.wrap (Int.tmod (wrap64 (Int.tdiv (wrap64 (Int.tdiv n 256)) 256)) 256)] ++ (bytesOf [IntKind.u8.wrap (Int.tmod (wrap64 (Int.tdiv n 256)) 256)] ++ (bytesOf [IntKind.u8.wrap (Int.tmod n 256)] ++ (⟨#[]⟩ : ByteArray)))))))) := by kernel_rfl
theorem eq_7 (n : Int) (h : n ≤ 9223372036854775807) : refR n (wrap64 (Int.tdiv (wrap64 (Int.tdiv (wrap64 (Int.tdiv (wrap64 (Int.tdiv (wrap64 (Int.tdiv (wrap64 (Int.tdiv (wrap64 (Int.tdiv n 256)) 256)) 256)) 256)) 256)) 256)) 256)) (bytesOf [IntKind.u8.wrap (Int.tmod (wrap64 (Int.tdiv (wrap64 (Int.tdiv (wrap64 (Int.tdiv (wrap64 (Int.tdiv (wrap64 (Int.tdiv (wrap64 (Int.tdiv n 256)) 256)) 256)) 256)) 256)) 256)) 256)] ++ (bytesOf [IntKind.u8.wrap (Int.tmod (wrap64 (Int.tdiv (wrap64 (Int.tdiv (wrap64 (Int.tdiv (wrap64 (Int.tdiv (wrap64 (Int.tdiv n 256)) 256)) 256)) 256)) 256)) 256)] ++ (bytesOf [IntKind.u8.wrap (Int.tmod (wrap64 (Int.tdiv (wrap64 (Int.tdiv (wrap64 (Int.tdiv (wrap64 (Int.tdiv n 256)) 256)) 256)) 256)) 256)] ++ (bytesOf [IntKind.u8.wrap (Int.tmod (wrap64 (Int.tdiv (wrap64 (Int.tdiv (wrap64 (Int.tdiv n 256)) 256)) 256)) 256)] ++ (bytesOf [IntKind.u8.wrap (Int.tmod (wrap64 (Int.tdiv (wrap64 (Int.tdiv n 256)) 256)) 256)] ++ (bytesOf [IntKind.u8.wrap (Int.tmod (wrap64 (Int.tdiv n 256)) 256)] ++ (bytesOf [IntKind.u8.wrap (Int.tmod n 256)] ++ (⟨#[]⟩ : ByteArray)))))))) = putR n 56 [IntKind.u8.wrap (shrv .i64 n 48), IntKind.u8.wrap (shrv .i64 n 40), IntKind.u8.wrap (shrv .i64 n 32), IntKind.u8.wrap (shrv .i64 n 24), IntKind.u8.wrap (shrv .i64 n 16), IntKind.u8.wrap (shrv .i64 n 8), IntKind.u8.wrap (shrv .i64 n 0)] := by
  unfold putR refR
  by_cases h0 : n < 0
  · rw [decide_eq_true h0]; rfl
  · rw [decide_eq_false h0]
    simp only [cond_false]
    have p0 : (0 : Int) ≤ n := by omega
    have q0 := h
    obtain ⟨e0, p1, q1⟩ := step _ p0 q0
    obtain ⟨e1, p2, q2⟩ := step _ p1 q1
    obtain ⟨e2, p3, q3⟩ := step _ p2 q2
    obtain ⟨e3, p4, q4⟩ := step _ p3 q3
    obtain ⟨e4, p5, q5⟩ := step _ p4 q4
    obtain ⟨e5, p6, q6⟩ := step _ p5 q5
    obtain ⟨e6, p7, q7⟩ := step _ p6 q6
    simp only [e0, e1, e2, e3, e4, e5, e6, tmod_pos p0, tmod_pos p1, tmod_pos p2, tmod_pos p3, tmod_pos p4, tmod_pos p5, tmod_pos p6]
    rw [show (⟨#[]⟩ : ByteArray) = bytesOf [] from rfl]
    simp only [bytesOf_append, u8_mod, List.cons_append, List.nil_append]
    simp only [shr_eq (t := 56) (by omega) (by omega), shr_eq (t := 0) (by omega) (by omega), shr_eq (t := 8) (by omega) (by omega), shr_eq (t := 16) (by omega) (by omega), shr_eq (t := 24) (by omega) (by omega), shr_eq (t := 32) (by omega) (by omega), shr_eq (t := 40) (by omega) (by omega), shr_eq (t := 48) (by omega) (by omega)]
    simp only [show (2 : Int) ^ Int.toNat 0 = 1 from by decide, show (2 : Int) ^ Int.toNat 8 = 256 from by decide, show (2 : Int) ^ Int.toNat 16 = 65536 from by decide, show (2 : Int) ^ Int.toNat 24 = 16777216 from by decide, show (2 : Int) ^ Int.toNat 32 = 4294967296 from by decide, show (2 : Int) ^ Int.toNat 40 = 1099511627776 from by decide, show (2 : Int) ^ Int.toNat 48 = 281474976710656 from by decide, show (2 : Int) ^ Int.toNat 56 = 72057594037927936 from by decide]
    have d2 : n / 256 / 256 = n / 65536 := by omega
    have d3 : n / 65536 / 256 = n / 16777216 := by omega
    have d4 : n / 16777216 / 256 = n / 4294967296 := by omega
    have d5 : n / 4294967296 / 256 = n / 1099511627776 := by omega
    have d6 : n / 1099511627776 / 256 = n / 281474976710656 := by omega
    have d7 : n / 281474976710656 / 256 = n / 72057594037927936 := by omega
    have d0 : n / 1 = n := by omega
    simp only [d0, d2, d3, d4, d5, d6, d7]
    have dd : decide (0 < n / 72057594037927936) = !decide (n / 72057594037927936 = 0) := by
      by_cases hq : n / 72057594037927936 = 0
      · rw [hq]; rfl
      · rw [decide_eq_false hq, decide_eq_true (by omega)]; rfl
    rw [dd]
theorem same (d : Nat) (n w : Int) (h1 : n ≤ 9223372036854775807) : ∃ r, nums_Put (d + 300) n w = some r ∧ corbelref01_Put (d + 300) n w = some r := by
  by_cases a : w < 1
  · exact ⟨_, put_low d n w a, ref_low d n w a⟩
  by_cases b : 7 < w
  · exact ⟨_, put_high d n w a b, ref_high d n w a b⟩
  have put_some : ∀ (s : Int) (l : List Int), ∃ r, putR n s l = some r := fun s l => by unfold putR; cases decide (n < 0) <;> simp <;> cases decide (shrv .i64 n s = 0) <;> simp
  obtain rfl | rfl | rfl | rfl | rfl | rfl | rfl : w = 1 ∨ w = 2 ∨ w = 3 ∨ w = 4 ∨ w = 5 ∨ w = 6 ∨ w = 7 := by omega
  · obtain ⟨r, hr⟩ := put_some _ _; exact ⟨r, (put_1 d n).trans hr, (ref_1 d n).trans ((eq_1 n h1).trans hr)⟩
  · obtain ⟨r, hr⟩ := put_some _ _; exact ⟨r, (put_2 d n).trans hr, (ref_2 d n).trans ((eq_2 n h1).trans hr)⟩
  · obtain ⟨r, hr⟩ := put_some _ _; exact ⟨r, (put_3 d n).trans hr, (ref_3 d n).trans ((eq_3 n h1).trans hr)⟩
  · obtain ⟨r, hr⟩ := put_some _ _; exact ⟨r, (put_4 d n).trans hr, (ref_4 d n).trans ((eq_4 n h1).trans hr)⟩
  · obtain ⟨r, hr⟩ := put_some _ _; exact ⟨r, (put_5 d n).trans hr, (ref_5 d n).trans ((eq_5 n h1).trans hr)⟩
  · obtain ⟨r, hr⟩ := put_some _ _; exact ⟨r, (put_6 d n).trans hr, (ref_6 d n).trans ((eq_6 n h1).trans hr)⟩
  · obtain ⟨r, hr⟩ := put_some _ _; exact ⟨r, (put_7 d n).trans hr, (ref_7 d n).trans ((eq_7 n h1).trans hr)⟩
theorem NumsPuts : NumsPutsPure := by
  intro n w hn hw
  obtain ⟨r, h1, h2⟩ := same 0 n w (wf_i64 hn).2
  refine ⟨0 + 300, ?_⟩
  unfold corbellaw01_NumsPuts
  rw [speaks01, h1, h2]
  show some (decide (r = r)) = _
  rw [decide_eq_true rfl]
end Go.Proofs.Ytncdfikcdchimaa.Pure
