/- MendEnds: the pure statement, over numbers and lists alone; no conditions. -/
import Derived.Test.YtcikcikcjimcjaaStatMendEnds
set_option linter.unusedVariables false
set_option linter.unusedSimpArgs false
namespace Go.Proofs.Ytcikcikcjimcjaa.Pure
open Go Go.RowKit Go.Proofs.Ytcikcikcjimcjaa.Ev
/-! ### whole numbers -/
theorem wf_i64 {n : Int} (h : Ty.wf (.int .i64) n) : -9223372036854775808 ≤ n ∧ n ≤ 9223372036854775807 := by
  have h : (Lit.int .i64 n).wf = true := h
  simpa [Lit.wf, IntKind.min, IntKind.max, IntKind.signed, IntKind.bits] using h
theorem w64 {n : Int} (h0 : -9223372036854775808 ≤ n) (h1 : n ≤ 9223372036854775807) : wrap64 n = n := by unfold wrap64; omega
theorem tdiv_pos {a b : Int} (ha : 0 ≤ a) : Int.tdiv a b = a / b := Int.tdiv_eq_ediv_of_nonneg ha
theorem tmod_pos {a b : Int} (ha : 0 ≤ a) : Int.tmod a b = a % b := Int.tmod_eq_emod_of_nonneg ha
theorem bytesOf_append (a b : List Int) : bytesOf a ++ bytesOf b = bytesOf (a ++ b) := by
  apply ByteArray.ext
  simp [bytesOf]
theorem cond_t {α : Type} {c : Bool} {a b : α} (h : c = true) : (bif c then a else b) = a := by rw [h]; rfl
theorem cond_f {α : Type} {c : Bool} {a b : α} (h : c = false) : (bif c then a else b) = b := by rw [h]; rfl
/-! ### the shape of an array of drives -/
def GG (a0 a1 a2 a3 a4 : Int) : Prop := 3 ≤ a0 ∧ a0 ≤ 16 ∧ 5 ≤ a1 ∧ a1 ≤ 64 ∧ 4 ≤ a2 ∧ a2 ≤ 256 ∧ 1 ≤ a3 ∧ a3 ≤ a4 ∧ a4 ≤ a1
instance (a0 a1 a2 a3 a4 : Int) : Decidable (GG a0 a1 a2 a3 a4) := by unfold GG; infer_instance
theorem within_val (k : Nat) (n l h : Int) : geom_within k n l h = some (decide (l ≤ n ∧ n ≤ h)) := by
  unfold geom_within
  by_cases a : l ≤ n <;> simp [a]
theorem good_val (k : Nat) (a0 a1 a2 a3 a4 : Int) : geom_Good k a0 a1 a2 a3 a4 = some (decide (GG a0 a1 a2 a3 a4)) := by
  unfold geom_Good
  simp only [within_val, optb]
  by_cases h1 : 3 ≤ a0 ∧ a0 ≤ 16 <;> by_cases h2 : 5 ≤ a1 ∧ a1 ≤ 64 <;> by_cases h3 : 4 ≤ a2 ∧ a2 ≤ 256 <;> by_cases h4 : 1 ≤ a3 ∧ a3 ≤ a4 <;> simp only [h1, h2, h3, h4, decide_true, decide_false, cond_true, cond_false, Option.some.injEq, decide_eq_decide, and_self] <;> first | (unfold GG; omega) | (symm; rw [decide_eq_false_iff_not]; unfold GG; omega)
theorem refgood_val (k : Nat) (a0 a1 a2 a3 a4 : Int) : corbelref04_Good k a0 a1 a2 a3 a4 = some (decide (GG a0 a1 a2 a3 a4)) := by
  unfold corbelref04_Good corbelref04_Good_j0 corbelref04_Good_k0 corbelref04_Good_k1
  by_cases h1 : a0 < 3 <;> by_cases h2 : 16 < a0 <;> by_cases h3 : a1 < 5 <;> by_cases h4 : 64 < a1 <;> by_cases h5 : a2 < 4 <;> by_cases h6 : 256 < a2 <;> by_cases h7 : 0 < a3 <;> by_cases h8 : a3 ≤ a4 <;>
    simp only [h1, h2, h3, h4, h5, h6, h7, h8, decide_true, decide_false, cond_true, cond_false, Option.some.injEq, decide_eq_decide] <;> first | (unfold GG; omega) | (symm; rw [decide_eq_false_iff_not]; unfold GG; omega)
section
variable {a0 a1 a2 a3 a4 : Int}
theorem cap_bound (h : GG a0 a1 a2 a3 a4) : 8 ≤ (a0 - 1) * a2 ∧ (a0 - 1) * a2 ≤ 3840 := by
  obtain ⟨h1, h2, _, _, h5, h6, _⟩ := h
  have e1 : 2 * 4 ≤ (a0 - 1) * a2 := Int.mul_le_mul (by omega) h5 (by omega) (by omega)
  have e2 : (a0 - 1) * a2 ≤ 15 * 256 := Int.mul_le_mul (by omega) h6 (by omega) (by omega)
  omega
theorem zones_yes (k : Nat) (h : GG a0 a1 a2 a3 a4) : geom_Zones k a0 a1 a2 a3 a4 = some (a1 - 3) := by
  unfold geom_Zones
  rw [good_val, decide_eq_true h]
  obtain ⟨_, _, h1, h2, _⟩ := h
  show some _ = _
  rw [w64 (n := a1 - 2) (by omega) (by omega), w64 (by omega) (by omega)]
  congr 1; omega
theorem zones_no (k : Nat) (h : ¬ GG a0 a1 a2 a3 a4) : geom_Zones k a0 a1 a2 a3 a4 = some 0 := by
  unfold geom_Zones
  rw [good_val, decide_eq_false h]; rfl
theorem cap_yes (k : Nat) (h : GG a0 a1 a2 a3 a4) : geom_Capacity k a0 a1 a2 a3 a4 = some ((a0 - 1) * a2) := by
  unfold geom_Capacity
  rw [good_val, decide_eq_true h]
  have hb := cap_bound h
  obtain ⟨h1, h2, _⟩ := h
  show some _ = _
  rw [w64 (n := a0 - 1) (by omega) (by omega), w64 (by omega) (by omega)]
theorem cap_no (k : Nat) (h : ¬ GG a0 a1 a2 a3 a4) : geom_Capacity k a0 a1 a2 a3 a4 = some 0 := by
  unfold geom_Capacity
  rw [good_val, decide_eq_false h]; rfl
theorem there_yes (k : Nat) (h : GG a0 a1 a2 a3 a4) (z r : Int) : geom_there k a0 a1 a2 a3 a4 z r = some (decide (0 ≤ z ∧ z < a1 - 3 ∧ 0 ≤ r ∧ r < a2)) := by
  unfold geom_there
  rw [zones_yes k h]
  obtain ⟨h1, h2, h3, h4, h5, h6, _⟩ := h
  simp only [optb, within_val]
  rw [w64 (n := a1 - 3 - 1) (by omega) (by omega), w64 (n := a2 - 1) (by omega) (by omega)]
  by_cases h7 : 0 ≤ z ∧ z ≤ a1 - 3 - 1
  · rw [decide_eq_true h7]
    simp only [cond_true, Option.some.injEq, decide_eq_decide]
    omega
  · rw [decide_eq_false h7, decide_eq_false (show ¬ (0 ≤ z ∧ z < a1 - 3 ∧ 0 ≤ r ∧ r < a2) by omega)]; rfl
theorem there_no (k : Nat) (h : ¬ GG a0 a1 a2 a3 a4) (z r : Int) : geom_there k a0 a1 a2 a3 a4 z r = some false := by
  unfold geom_there
  rw [zones_no k h]
  simp only [optb, within_val]
  have : wrap64 (0 - 1) = -1 := by kernel_rfl
  rw [this, decide_eq_false (by omega)]; rfl
end
theorem and_mask (x : Int) (i : Nat) (hi : i ≤ 62) : bitop .and .i64 x (2 ^ i - 1) = x % 2 ^ i := by
  have h2 : (2 : Nat) ^ i ≤ 2 ^ 62 := Nat.pow_le_pow_right (by decide) hi
  have h62 : (2 : Nat) ^ 62 = 4611686018427387904 := by decide
  have h64 : (2 : Nat) ^ 64 = 18446744073709551616 := by decide
  have hp : 0 < 2 ^ i := Nat.two_pow_pos i
  have hc : ((2 : Int) ^ i - 1) = ((2 ^ i - 1 : Nat) : Int) := by rw [Int.natCast_sub hp]; simp
  have hd : (2 ^ i : Nat) ∣ 2 ^ 64 := Nat.pow_dvd_pow 2 (by omega)
  have hb : IntKind.i64.bits = 64 := rfl
  have key : ((BitVec.ofInt 64 x &&& BitVec.ofInt 64 (2 ^ i - 1)).toNat : Int) = x % 2 ^ i := by
    rw [hc, BitVec.ofInt_natCast, BitVec.toNat_and, BitVec.toNat_ofNat, Nat.mod_eq_of_lt (show 2 ^ i - 1 < 2 ^ 64 by omega), Nat.and_two_pow_sub_one_eq_mod, BitVec.toNat_ofInt,
      Int.natCast_emod, Int.toNat_of_nonneg (Int.emod_nonneg _ (by decide)), Int.emod_emod_of_dvd]
    · simp
    · exact Int.natCast_dvd_natCast.2 hd
  have hlt : ((BitVec.ofInt 64 x &&& BitVec.ofInt 64 (2 ^ i - 1)).toNat : Int) < 4611686018427387904 := by
    rw [key]
    have : x % ((2 ^ i : Nat) : Int) < ((2 ^ i : Nat) : Int) := Int.emod_lt_of_pos _ (by omega)
    have e : ((2 ^ i : Nat) : Int) = (2 : Int) ^ i := by simp
    rw [e] at this
    have : (2 : Int) ^ i ≤ 4611686018427387904 := by rw [← e]; omega
    omega
  show IntKind.i64.wrap ((BitVec.ofInt 64 x &&& BitVec.ofInt 64 (2 ^ i - 1)).toNat : Int) = x % 2 ^ i
  rw [IntKind.wrap_i64]
  omega
/-! ### loops over whole numbers -/
noncomputable def dc (P : Prop) : Bool := @decide P (Classical.propDecidable P)
theorem dc_t {P : Prop} (h : P) : dc P = true := @decide_eq_true P (Classical.propDecidable P) h
theorem dc_f {P : Prop} (h : ¬ P) : dc P = false := @decide_eq_false P (Classical.propDecidable P) h
theorem dc_iff {P : Prop} : dc P = true ↔ P := ⟨fun h => @of_decide_eq_true P (Classical.propDecidable P) h, dc_t⟩
theorem dc_congr {P Q : Prop} (h : P ↔ Q) : dc P = dc Q := by rw [propext h]
theorem dc_dec {P : Prop} [Decidable P] : decide P = dc P := by
  by_cases h : P
  · rw [decide_eq_true h, dc_t h]
  · rw [decide_eq_false h, dc_f h]
theorem dc_and (P Q : Prop) : (dc P && dc Q) = dc (P ∧ Q) := by
  by_cases h : P
  · by_cases h2 : Q
    · rw [dc_t h, dc_t h2, dc_t ⟨h, h2⟩]; rfl
    · rw [dc_f h2, dc_f (fun x : P ∧ Q => h2 x.2), Bool.and_false]
  · rw [dc_f h, dc_f (fun x : P ∧ Q => h x.1)]; rfl
/-- up to the first number without `P` -/
theorem loopUp {R : Type} (f : Nat → Int → Option R) (lo to : Int) (P : Int → Prop) (yes : Option R) (no : Int → Option R)
    (hs : ∀ j i, lo ≤ i → i < to → P i → f (j + 1) i = f j (i + 1)) (hn : ∀ j i, lo ≤ i → i < to → ¬ P i → f (j + 1) i = no i) (he : ∀ j i, lo ≤ i → to ≤ i → f (j + 1) i = yes) :
    ∀ n j i, lo ≤ i → (to - i).toNat = n → n < j → ((∀ q, i ≤ q → q < to → P q) ∧ f j i = yes) ∨ (∃ q, i ≤ q ∧ q < to ∧ ¬ P q ∧ (∀ u, i ≤ u → u < q → P u) ∧ f j i = no q) := by
  intro n
  induction n with
  | zero =>
    intro j i hl h hj
    obtain ⟨j, rfl⟩ : ∃ u, j = u + 1 := ⟨j - 1, by omega⟩
    exact .inl ⟨fun q h1 h2 => absurd h2 (by omega), he j i hl (by omega)⟩
  | succ n ih =>
    intro j i hl h hj
    obtain ⟨j, rfl⟩ : ∃ u, j = u + 1 := ⟨j - 1, by omega⟩
    by_cases hp : P i
    · rw [hs j i hl (by omega) hp]
      rcases ih j (i + 1) (by omega) (by omega) (by omega) with ⟨h1, h2⟩ | ⟨q, h1, h2, h3, h4, h5⟩
      · refine .inl ⟨fun q h3 h4 => ?_, h2⟩
        by_cases e : q = i
        · rw [e]; exact hp
        · exact h1 q (by omega) h4
      · refine .inr ⟨q, by omega, h2, h3, fun u h6 h7 => ?_, h5⟩
        by_cases e : u = i
        · rw [e]; exact hp
        · exact h4 u (by omega) h7
    · exact .inr ⟨i, by omega, by omega, hp, fun u h1 h2 => absurd h2 (by omega), hn j i hl (by omega) hp⟩
/-- the same, for a loop that ends where it should -/
theorem loopTo {R : Type} (f : Nat → Int → Option R) (lo to : Int) (P : Int → Prop) (yes : Option R) (no : Int → Option R)
    (hs : ∀ j i, lo ≤ i → i < to → P i → f (j + 1) i = f j (i + 1)) (hn : ∀ j i, lo ≤ i → i < to → ¬ P i → f (j + 1) i = no i) (he : ∀ j, f (j + 1) to = yes) :
    ∀ n j i, lo ≤ i → i ≤ to → (to - i).toNat = n → n < j → ((∀ q, i ≤ q → q < to → P q) ∧ f j i = yes) ∨ (∃ q, i ≤ q ∧ q < to ∧ ¬ P q ∧ (∀ u, i ≤ u → u < q → P u) ∧ f j i = no q) := by
  intro n
  induction n with
  | zero =>
    intro j i hl hle h hj
    obtain ⟨j, rfl⟩ : ∃ u, j = u + 1 := ⟨j - 1, by omega⟩
    exact .inl ⟨fun q h1 h2 => absurd h2 (by omega), by rw [show i = to by omega]; exact he j⟩
  | succ n ih =>
    intro j i hl hle h hj
    obtain ⟨j, rfl⟩ : ∃ u, j = u + 1 := ⟨j - 1, by omega⟩
    by_cases hp : P i
    · rw [hs j i hl (by omega) hp]
      rcases ih j (i + 1) (by omega) (by omega) (by omega) (by omega) with ⟨h1, h2⟩ | ⟨q, h1, h2, h3, h4, h5⟩
      · refine .inl ⟨fun q h3 h4 => ?_, h2⟩
        by_cases e : q = i
        · rw [e]; exact hp
        · exact h1 q (by omega) h4
      · refine .inr ⟨q, by omega, h2, h3, fun u h6 h7 => ?_, h5⟩
        by_cases e : u = i
        · rw [e]; exact hp
        · exact h4 u (by omega) h7
    · exact .inr ⟨i, by omega, by omega, hp, fun u h1 h2 => absurd h2 (by omega), hn j i hl (by omega) hp⟩
theorem loopAll {R : Type} (f : Nat → Int → Option R) (lo to : Int) (P : Int → Prop) (yes no : Option R)
    (hs : ∀ j i, lo ≤ i → i < to → P i → f (j + 1) i = f j (i + 1)) (hn : ∀ j i, lo ≤ i → i < to → ¬ P i → f (j + 1) i = no) (he : ∀ j i, lo ≤ i → to ≤ i → f (j + 1) i = yes)
    (j : Nat) (i : Int) (hl : lo ≤ i) (hj : (to - i).toNat < j) : f j i = bif dc (∀ q, i ≤ q → q < to → P q) then yes else no := by
  rcases loopUp f lo to P yes (fun _ => no) hs hn he _ j i hl rfl hj with ⟨h1, h2⟩ | ⟨q, h1, h2, h3, _, h5⟩
  · rw [dc_t h1, h2]; rfl
  · rw [dc_f (fun h => h3 (h q h1 h2)), h5]; rfl
/-- the last number below `n` with `P` -/
noncomputable def lastI (P : Int → Prop) : Nat → Int
  | 0 => -1
  | n + 1 => bif dc (P n) then n else lastI P n
theorem lastI_lt (P : Int → Prop) (n : Nat) : -1 ≤ lastI P n ∧ lastI P n < n := by
  induction n with
  | zero => exact ⟨Int.le_refl (-1), by show (-1 : Int) < 0; decide⟩
  | succ n ih =>
    unfold lastI
    cases dc (P n) with
    | true => rw [cond_true]; omega
    | false => rw [cond_false]; omega
theorem lastI_yes (P : Int → Prop) (n : Nat) (h : 0 ≤ lastI P n) : P (lastI P n) := by
  induction n with
  | zero => exact absurd (show (0 : Int) ≤ -1 from h) (by decide)
  | succ n ih =>
    unfold lastI at h ⊢
    by_cases hp : P n
    · rw [dc_t hp]; exact hp
    · rw [dc_f hp] at h ⊢; exact ih h
theorem lastI_no (P : Int → Prop) (n : Nat) : 0 ≤ lastI P n ↔ ∃ q : Nat, q < n ∧ P q := by
  induction n with
  | zero => exact ⟨fun h => absurd (show (0 : Int) ≤ -1 from h) (by decide), fun ⟨q, h, _⟩ => absurd h (by omega)⟩
  | succ n ih =>
    unfold lastI
    by_cases hp : P n
    · rw [dc_t hp]; exact ⟨fun _ => ⟨n, by omega, hp⟩, fun _ => by rw [cond_true]; omega⟩
    · rw [dc_f hp, cond_false, ih]
      refine ⟨fun ⟨q, h1, h2⟩ => ⟨q, by omega, h2⟩, fun ⟨q, h1, h2⟩ => ⟨q, ?_, h2⟩⟩
      by_cases e : q = n
      · rw [e] at h2; exact absurd h2 hp
      · omega
theorem lastI_congr {P Q : Int → Prop} (n : Nat) (h : ∀ q : Nat, q < n → (P q ↔ Q q)) : lastI P n = lastI Q n := by
  induction n with
  | zero => rfl
  | succ n ih => unfold lastI; rw [dc_congr (h n (by omega)), ih (fun q hq => h q (by omega))]
theorem loopDown {R : Type} (f : Nat → Int → Option R) (N : Nat) (P : Int → Prop) (yes : Int → Option R) (no : Option R)
    (hy : ∀ j (i : Nat), i < N → P i → f (j + 1) i = yes i) (hn : ∀ j (i : Nat), i < N → ¬ P i → f (j + 1) i = f j (i - 1)) (he : ∀ j, f (j + 1) (-1) = no) :
    ∀ n j, n ≤ N → n < j → f j (n - 1) = bif decide (0 ≤ lastI P n) then yes (lastI P n) else no := by
  intro n
  induction n with
  | zero =>
    intro j _ hj
    obtain ⟨j, rfl⟩ : ∃ u, j = u + 1 := ⟨j - 1, by omega⟩
    exact he j
  | succ n ih =>
    intro j hN hj
    obtain ⟨j, rfl⟩ : ∃ u, j = u + 1 := ⟨j - 1, by omega⟩
    rw [show ((n + 1 : Nat) : Int) - 1 = (n : Int) by omega]
    unfold lastI
    by_cases hp : P n
    · rw [hy j n (by omega) hp, dc_t hp, cond_true, decide_eq_true (by omega)]; rfl
    · rw [hn j n (by omega) hp, dc_f hp, cond_false]; exact ih j (by omega) (by omega)
/-- a state that is carried along -/
def foldI {S : Type} (g : Int → S → S) : Nat → Int → S → S
  | 0, _, s => s
  | n + 1, i, s => foldI g n (i + 1) (g i s)
theorem loopFold {R S : Type} (f : Nat → S → Int → Option R) (lo to : Int) (g : Int → S → S) (e : S → Option R)
    (hs : ∀ j s i, lo ≤ i → i < to → f (j + 1) s i = f j (g i s) (i + 1)) (he : ∀ j s i, lo ≤ i → to ≤ i → f (j + 1) s i = e s) :
    ∀ n j s i, lo ≤ i → (to - i).toNat = n → n < j → f j s i = e (foldI g n i s) := by
  intro n
  induction n with
  | zero =>
    intro j s i hl h hj
    obtain ⟨j, rfl⟩ : ∃ u, j = u + 1 := ⟨j - 1, by omega⟩
    exact he j s i hl (by omega)
  | succ n ih =>
    intro j s i hl h hj
    obtain ⟨j, rfl⟩ : ∃ u, j = u + 1 := ⟨j - 1, by omega⟩
    rw [hs j s i hl (by omega), ih j _ _ (by omega) (by omega) (by omega)]; rfl
theorem foldI_and (P : Int → Prop) : ∀ n i a, foldI (fun i a => a && dc (P i)) n i a = (a && dc (∀ q, i ≤ q → q < i + (n : Nat) → P q)) := by
  intro n
  induction n with
  | zero => intro i a; rw [dc_t (fun q h1 h2 => absurd h2 (by omega)), Bool.and_true]; rfl
  | succ n ih =>
    intro i a
    show foldI _ n (i + 1) (a && dc (P i)) = _
    rw [ih, Bool.and_assoc, dc_and]
    congr 1
    refine dc_congr ⟨fun ⟨h, h'⟩ q h1 h2 => ?_, fun h => ⟨h i (by omega) (by omega), fun q h1 h2 => h q (by omega) (by omega)⟩⟩
    by_cases e : q = i
    · rw [e]; exact h
    · exact h' q (by omega) (by omega)
theorem foldI_snoc {S : Type} (g : Int → S → S) : ∀ n i s, foldI g (n + 1) i s = g (i + (n : Nat)) (foldI g n i s) := by
  intro n
  induction n with
  | zero => intro i s; show g i s = g (i + 0) s; rw [Int.add_zero]
  | succ n ih =>
    intro i s
    show foldI g (n + 1) (i + 1) (g i s) = _
    rw [ih]
    show g (i + 1 + (n : Nat)) _ = g (i + ((n + 1 : Nat) : Int)) (foldI g n (i + 1) (g i s))
    congr 1; omega
theorem foldI_last (P : Int → Prop) (n : Nat) : foldI (fun i a => bif dc (P i) then i else a) n 0 (-1) = lastI P n := by
  induction n with
  | zero => rfl
  | succ n ih => rw [foldI_snoc, ih]; show _ = (bif dc (P n) then (n : Int) else lastI P n); rw [Int.zero_add]
/-! ### reading a list -/
def lat (L : List Int) (q : Int) : Int := L.getD q.toNat 0
theorem lat_some {L : List Int} {q : Int} (h0 : 0 ≤ q) (h1 : q < L.length) : L[q.toNat]? = some (lat L q) := by
  have h : q.toNat < L.length := by omega
  unfold lat
  rw [List.getD_eq_getElem?_getD, List.getElem?_eq_getElem h]; rfl
theorem lat_wf {L : List Int} {b : Bool} (h : Ty.wf (.sl (.int .i64)) (b, L)) (q : Int) (h0 : 0 ≤ q) (h1 : q < L.length) : -9223372036854775808 ≤ lat L q ∧ lat L q ≤ 9223372036854775807 := by
  have hm : lat L q ∈ L := by
    have h : q.toNat < L.length := by omega
    unfold lat
    rw [List.getD_eq_getElem?_getD, List.getElem?_eq_getElem h]; exact List.getElem_mem h
  exact wf_i64 (h.2.2 _ hm)
theorem mod_in {x c : Int} (hx : -9223372036854775808 ≤ x ∧ x ≤ 9223372036854775807) (c0 : 0 < c) (c1 : c ≤ 1000000) : 0 ≤ Int.tmod (wrap64 (wrap64 (Int.tmod x c + (c - 1)) + 1)) c ∧ Int.tmod (wrap64 (wrap64 (Int.tmod x c + (c - 1)) + 1)) c < c := by
  have m0 := Int.lt_tmod_of_pos x c0
  have m1 := Int.tmod_lt_of_pos x c0
  rw [w64 (n := Int.tmod x c + (c - 1)) (by omega) (by omega), w64 (by omega) (by omega), tmod_pos (by omega)]
  exact ⟨Int.emod_nonneg _ (by omega), Int.emod_lt_of_pos _ c0⟩
theorem mod_in2 {x c : Int} (hx : -9223372036854775808 ≤ x ∧ x ≤ 9223372036854775807) (c0 : 0 < c) (c1 : c ≤ 1000000) : 0 ≤ Int.tmod (wrap64 (Int.tmod x c + c)) c ∧ Int.tmod (wrap64 (Int.tmod x c + c)) c < c := by
  have m0 := Int.lt_tmod_of_pos x c0
  have m1 := Int.tmod_lt_of_pos x c0
  rw [w64 (n := Int.tmod x c + c) (by omega) (by omega), tmod_pos (by omega)]
  exact ⟨Int.emod_nonneg _ (by omega), Int.emod_lt_of_pos _ c0⟩
theorem lat_app (L : List Int) (x : Int) {q : Int} (h0 : 0 ≤ q) : lat (L ++ [x]) q = if q < L.length then lat L q else if q = L.length then x else 0 := by
  unfold lat
  rw [List.getD_eq_getElem?_getD, List.getD_eq_getElem?_getD]
  by_cases h : q < L.length
  · rw [if_pos h, List.getElem?_append_left (by omega)]
  · rw [if_neg h, List.getElem?_append_right (by omega)]
    by_cases e : q = L.length
    · rw [if_pos e, show q.toNat - L.length = 0 by omega]; rfl
    · rw [if_neg e, List.getElem?_eq_none (by rw [List.length_singleton]; omega)]; rfl
/-! ### where a block lies -/
def sl (d z r p : Int) : Int := ((z + r) % d + 1 + p) % d
theorem sl_lt {d : Int} (hd : 0 < d) (z r p : Int) : 0 ≤ sl d z r p ∧ sl d z r p < d := ⟨Int.emod_nonneg _ (by omega), Int.emod_lt_of_pos _ hd⟩
section
variable {a0 a1 a2 a3 a4 : Int}
theorem par_yes (k : Nat) (h : GG a0 a1 a2 a3 a4) {z r : Int} (t : 0 ≤ z ∧ z < a1 - 3 ∧ 0 ≤ r ∧ r < a2) : geom_Parity k a0 a1 a2 a3 a4 z r = some ((z + r) % a0) := by
  unfold geom_Parity
  rw [there_yes k h, decide_eq_true t]
  obtain ⟨h1, h2, h3, h4, h5, h6, _⟩ := h
  simp only [optb, Bool.not_true, cond_false]
  rw [decide_eq_false (show ¬ a0 = 0 by omega), cond_false, w64 (by omega) (by omega), tmod_pos (by omega)]
theorem block_row {d b rows : Int} (hd : 3 ≤ d) (hb : 0 ≤ b) (hc : b < (d - 1) * rows) : 0 ≤ b / (d - 1) ∧ b / (d - 1) < rows ∧ 0 ≤ b % (d - 1) ∧ b % (d - 1) < d - 1 := by
  refine ⟨Int.ediv_nonneg hb (by omega), Int.ediv_lt_of_lt_mul (by omega) ?_, Int.emod_nonneg _ (by omega), Int.emod_lt_of_pos _ (by omega)⟩
  rw [Int.mul_comm]; exact hc
theorem slot_par (k : Nat) (h : GG a0 a1 a2 a3 a4) {z r : Int} (t : 0 ≤ z ∧ z < a1 - 3 ∧ 0 ≤ r ∧ r < a2) {p : Int} (p0 : -1 ≤ p) (p1 : p < 1000) : Int.tmod (wrap64 (wrap64 ((z + r) % a0 + 1) + p)) a0 = sl a0 z r p := by
  obtain ⟨h1, h2, h3, h4, h5, h6, _⟩ := h
  have e0 := Int.emod_nonneg (z + r) (show a0 ≠ 0 by omega)
  have e1 := Int.emod_lt_of_pos (z + r) (show 0 < a0 by omega)
  rw [w64 (n := (z + r) % a0 + 1) (by omega) (by omega), w64 (by omega) (by omega), tmod_pos (by omega)]; rfl
end
section
variable {a0 a1 a2 a3 a4 : Int}
theorem place_yes (k : Nat) (h : GG a0 a1 a2 a3 a4) {z b : Int} (z0 : 0 ≤ z) (z1 : z < a1 - 3) (b0 : 0 ≤ b) (b1 : b < (a0 - 1) * a2) :
    geom_Place k a0 a1 a2 a3 a4 z b = some (b / (a0 - 1), sl a0 z (b / (a0 - 1)) (b % (a0 - 1)), true) := by
  unfold geom_Place
  have hc := cap_bound h
  have hr := block_row (rows := a2) (by obtain ⟨h1, _⟩ := h; omega) b0 b1
  have h' := h
  obtain ⟨h1, h2, h3, h4, h5, h6, _⟩ := h'
  rw [there_yes k h, decide_eq_true (show 0 ≤ z ∧ z < a1 - 3 ∧ 0 ≤ (0 : Int) ∧ 0 < a2 by omega), cap_yes k h]
  simp only [optb, Bool.not_true, cond_false, within_val]
  rw [w64 (n := (a0 - 1) * a2 - 1) (by omega) (by omega), decide_eq_true (show 0 ≤ b ∧ b ≤ (a0 - 1) * a2 - 1 by omega)]
  simp only [Bool.not_true, geom_Place_j0, geom_Place_k1, geom_Place_j1, cond_false, optb]
  have hq : b / (a0 - 1) ≤ 300 := by omega
  rw [w64 (n := a0 - 1) (by omega) (by omega), decide_eq_false (show ¬ a0 - 1 = 0 by omega)]
  simp only [cond_false]
  rw [tdiv_pos b0, tmod_pos b0, w64 (n := b / (a0 - 1)) (by omega) (by omega), par_yes k h ⟨z0, z1, hr.1, hr.2.1⟩]
  simp only [optb]
  rw [decide_eq_false (show ¬ a0 = 0 by omega), cond_false, slot_par k h ⟨z0, z1, hr.1, hr.2.1⟩ (by omega) (by omega)]
theorem place_no (k : Nat) {z b : Int} (h : ¬ (GG a0 a1 a2 a3 a4 ∧ 0 ≤ z ∧ z < a1 - 3 ∧ 0 ≤ b ∧ b < (a0 - 1) * a2)) :
    geom_Place k a0 a1 a2 a3 a4 z b = some (0, 0, false) := by
  unfold geom_Place
  by_cases g : GG a0 a1 a2 a3 a4
  · have hc := cap_bound g
    have g' := g
    obtain ⟨h1, h2, h3, h4, h5, h6, _⟩ := g'
    rw [there_yes k g, cap_yes k g]
    simp only [optb, within_val]
    rw [w64 (n := (a0 - 1) * a2 - 1) (by omega) (by omega)]
    by_cases t : 0 ≤ z ∧ z < a1 - 3
    · rw [decide_eq_true (show 0 ≤ z ∧ z < a1 - 3 ∧ 0 ≤ (0 : Int) ∧ 0 < a2 by omega), decide_eq_false (show ¬ (0 ≤ b ∧ b ≤ (a0 - 1) * a2 - 1) from fun x => h ⟨g, t.1, t.2, x.1, by omega⟩)]; rfl
    · rw [decide_eq_false (show ¬ (0 ≤ z ∧ z < a1 - 3 ∧ 0 ≤ (0 : Int) ∧ 0 < a2) by omega)]; rfl
  · rw [there_no k g]; rfl
end
/-! ### spots and lengths -/
theorem div_step {n c : Int} (hc : 0 < c) (h0 : 0 ≤ n) : (n % c + 1 < c ∧ (n + 1) / c = n / c ∧ (n + 1) % c = n % c + 1) ∨ (n % c + 1 = c ∧ (n + 1) / c = n / c + 1 ∧ (n + 1) % c = 0) := by
  have h1 := Int.emod_add_mul_ediv n c
  have h2 := Int.emod_nonneg n (show c ≠ 0 by omega)
  have h3 := Int.emod_lt_of_pos n hc
  rcases Int.lt_or_le (n % c + 1) c with hlt | hge
  · refine .inl ⟨hlt, ?_, ?_⟩
    · have e : n + 1 = (n % c + 1) + (n / c) * c := by rw [Int.mul_comm (n / c)]; omega
      rw [e, Int.add_mul_ediv_right _ _ (by omega), Int.ediv_eq_zero_of_lt (by omega) hlt]; omega
    · have e : n + 1 = (n % c + 1) + c * (n / c) := by omega
      conv => lhs; rw [e]
      rw [Int.add_mul_emod_self_left]; exact Int.emod_eq_of_lt (by omega) hlt
  · refine .inr ⟨by omega, ?_, ?_⟩
    · have e : n + 1 = 0 + (n / c + 1) * c := by rw [Int.add_mul, Int.one_mul, Int.mul_comm (n / c)]; omega
      rw [e, Int.add_mul_ediv_right _ _ (by omega)]; simp
    · have e : n + 1 = 0 + c * (n / c + 1) := by rw [Int.mul_add, Int.mul_one]; omega
      rw [e, Int.add_mul_emod_self_left]; simp

abbrev slotOf (d zone row k : Int) : Int := sl d zone row k
/-! ### what lies at a spot -/
def kOf (d p drive : Int) : Int := if p < drive then drive - p - 1 else drive - p - 1 + d
def sOf (d p k : Int) : Int := if p + 1 + k < d then p + 1 + k else p + 1 + k - d
theorem kOf_mod {d p drive : Int} (h0 : 0 ≤ p) (h1 : p < d) (h2 : 0 ≤ drive) (h3 : drive < d) (h4 : drive ≠ p) : (drive - p - 1 + d) % d = kOf d p drive := by
  unfold kOf
  split
  · rw [Int.add_emod_right]; exact Int.emod_eq_of_lt (by omega) (by omega)
  · exact Int.emod_eq_of_lt (by omega) (by omega)
theorem kOf_range {d p drive : Int} (h0 : 0 ≤ p) (h1 : p < d) (h2 : 0 ≤ drive) (h3 : drive < d) (h4 : drive ≠ p) : 0 ≤ kOf d p drive ∧ kOf d p drive ≤ d - 2 := by
  unfold kOf; split <;> omega
theorem sOf_mod {d p k : Int} (h0 : 0 ≤ p) (h1 : p < d) (h2 : 0 ≤ k) (h3 : k ≤ d - 2) : (p + 1 + k) % d = sOf d p k := by
  unfold sOf
  split
  · exact Int.emod_eq_of_lt (by omega) (by omega)
  · rw [show p + 1 + k = (p + 1 + k - d) + d by omega, Int.add_emod_right, show p + 1 + k - d + d - d = p + 1 + k - d by omega]; exact Int.emod_eq_of_lt (by omega) (by omega)
theorem sOf_range {d p k : Int} (h0 : 0 ≤ p) (h1 : p < d) (h2 : 0 ≤ k) (h3 : k ≤ d - 2) : 0 ≤ sOf d p k ∧ sOf d p k < d ∧ sOf d p k ≠ p := by
  unfold sOf; split <;> omega
theorem sOf_kOf {d p drive : Int} (h0 : 0 ≤ p) (h1 : p < d) (h2 : 0 ≤ drive) (h3 : drive < d) (h4 : drive ≠ p) : sOf d p (kOf d p drive) = drive := by
  unfold sOf kOf; split <;> split <;> omega
theorem kOf_sOf {d p k : Int} (h0 : 0 ≤ p) (h1 : p < d) (h2 : 0 ≤ k) (h3 : k ≤ d - 2) : kOf d p (sOf d p k) = k := by
  unfold sOf kOf; split <;> split <;> omega
theorem par_range (d zone row : Int) (hd : 3 ≤ d) : 0 ≤ (zone + row) % d ∧ (zone + row) % d < d := ⟨Int.emod_nonneg _ (by omega), Int.emod_lt_of_pos _ (by omega)⟩

theorem slotOf_eq {d zone row k : Int} (hd : 3 ≤ d) (h2 : 0 ≤ k) (h3 : k ≤ d - 2) : slotOf d zone row k = sOf d ((zone + row) % d) k :=
  sOf_mod (par_range d zone row hd).1 (par_range d zone row hd).2 h2 h3

theorem mul_row {d b row : Int} (hd : 3 ≤ d) (h0 : 0 ≤ row) (h1 : row ≤ b - 1) : 0 ≤ row * (d - 1) ∧ row * (d - 1) ≤ (d - 1) * b - (d - 1) := by
  refine ⟨Int.mul_nonneg h0 (by omega), ?_⟩
  have := Int.mul_le_mul_of_nonneg_right h1 (show 0 ≤ d - 1 by omega)
  rw [Int.sub_mul, Int.one_mul, Int.mul_comm b] at this
  exact this
theorem row_div {d row k : Int} (hd : 3 ≤ d) (h2 : 0 ≤ k) (h3 : k ≤ d - 2) : (row * (d - 1) + k) / (d - 1) = row ∧ (row * (d - 1) + k) % (d - 1) = k := by
  constructor
  · rw [Int.add_comm, Int.add_mul_ediv_right _ _ (by omega), Int.ediv_eq_zero_of_lt h2 (by omega)]; omega
  · rw [Int.add_comm, Int.add_mul_emod_self_right]; exact Int.emod_eq_of_lt h2 (by omega)

/-! ### how many blocks a slot has of a zone -/
def lenV (d zone n s : Int) : Int := n / (d - 1) + (if s ≠ (zone + n / (d - 1)) % d ∧ kOf d ((zone + n / (d - 1)) % d) s < n % (d - 1) then 1 else 0)
theorem lenV_step {d zone n s : Int} (hd : 3 ≤ d) (hn : 0 ≤ n) (h0 : 0 ≤ s) (h1 : s < d) :
    lenV d zone (n + 1) s = lenV d zone n s + (if s = slotOf d zone (n / (d - 1)) (n % (d - 1)) then 1 else 0) + (if n % (d - 1) = d - 2 ∧ s = (zone + n / (d - 1)) % d then 1 else 0) := by
  have hp := par_range d zone (n / (d - 1)) hd
  have hm0 := Int.emod_nonneg n (show d - 1 ≠ 0 by omega)
  have hm1 := Int.emod_lt_of_pos n (show 0 < d - 1 by omega)
  have hs : slotOf d zone (n / (d - 1)) (n % (d - 1)) = sOf d ((zone + n / (d - 1)) % d) (n % (d - 1)) := slotOf_eq hd hm0 (by omega)
  have hsr := sOf_range hp.1 hp.2 hm0 (show n % (d - 1) ≤ d - 2 by omega)
  rw [hs]
  unfold lenV
  generalize hpp : (zone + n / (d - 1)) % d = p at hp hsr ⊢
  generalize hr : n % (d - 1) = r at hm0 hm1 hsr ⊢
  have hk : s ≠ p → (s = sOf d p r ↔ kOf d p s = r) := by
    intro hne
    constructor
    · rintro rfl; exact kOf_sOf hp.1 hp.2 hm0 (by omega)
    · rintro h; rw [← h]; exact (sOf_kOf hp.1 hp.2 h0 h1 hne).symm
  rcases div_step (n := n) (c := d - 1) (by omega) hn with ⟨e1, e2, e3⟩ | ⟨e1, e2, e3⟩
  · rw [e2, e3, hpp, hr]
    rw [hr] at e1
    by_cases hsp : s = p
    · subst hsp
      rw [if_neg (by omega), if_neg (by omega), if_neg (by omega), if_neg (by omega)]; omega
    · have hk2 := hk hsp
      by_cases hkr : kOf d p s < r
      · rw [if_pos ⟨hsp, by omega⟩, if_pos ⟨hsp, hkr⟩, if_neg (by omega), if_neg (by omega)]; omega
      · by_cases hke : kOf d p s = r
        · rw [if_pos ⟨hsp, by omega⟩, if_neg (by omega), if_pos (hk2.2 hke), if_neg (by omega)]; omega
        · rw [if_neg (by omega), if_neg (by omega), if_neg (fun h => hke (hk2.1 h)), if_neg (by omega)]; simp
  · rw [e2, e3]
    rw [hr] at e1
    have hnn : ¬ (s ≠ (zone + (n / (d - 1) + 1)) % d ∧ kOf d ((zone + (n / (d - 1) + 1)) % d) s < 0) := by
      rintro ⟨h2, h3⟩
      have hp' := par_range d zone (n / (d - 1) + 1) hd
      have := kOf_range hp'.1 hp'.2 h0 h1 h2
      omega
    rw [if_neg hnn]
    by_cases hsp : s = p
    · subst hsp
      rw [if_neg (by omega), if_neg (by omega), if_pos ⟨by omega, rfl⟩]; omega
    · have hk2 := hk hsp
      have hkr := kOf_range hp.1 hp.2 h0 h1 hsp
      by_cases hke : kOf d p s = r
      · rw [if_neg (by omega), if_pos (hk2.2 hke), if_neg (by omega)]; omega
      · rw [if_pos ⟨hsp, by omega⟩, if_neg (fun h => hke (hk2.1 h)), if_neg (by omega)]; omega
theorem lenV_zero {d zone s : Int} (hd : 3 ≤ d) (h0 : 0 ≤ s) (h1 : s < d) : lenV d zone 0 s = 0 := by
  unfold lenV
  have hp := par_range d zone (0 / (d - 1)) hd
  rw [if_neg]
  · simp
  · rintro ⟨h2, h3⟩
    have := kOf_range hp.1 hp.2 h0 h1 h2
    simp at h3
    simp at this
    omega
/-- What Lengths tells: one number a slot. -/
def lensL (d zone n : Int) : List Int := (List.range d.toNat).map fun s : Nat => lenV d zone n (s : Int)
theorem lensL_length {d : Int} (hd : 0 ≤ d) (zone n : Int) : ((lensL d zone n).length : Int) = d := by simp [lensL]; omega
theorem lensL_at {d zone n s : Int} (h0 : 0 ≤ s) (h1 : s < d) : lat (lensL d zone n) s = lenV d zone n s := by
  unfold lat lensL
  rw [List.getD_eq_getElem?_getD, List.getElem?_map, List.getElem?_range (by omega)]
  simp [show ((s.toNat : Nat) : Int) = s by omega]
theorem lat_ext {L M : List Int} (hl : L.length = M.length) (h : ∀ q : Int, 0 ≤ q → q < L.length → lat L q = lat M q) : L = M := by
  apply List.ext_getElem hl
  intro i h1 h2
  have := h i (by omega) (by omega)
  unfold lat at this
  rw [Int.toNat_natCast, List.getD_eq_getElem?_getD, List.getD_eq_getElem?_getD, List.getElem?_eq_getElem h1, List.getElem?_eq_getElem h2] at this
  exact this
theorem lat_set {L : List Int} {i : Int} (h0 : 0 ≤ i) (hi : i < L.length) (v : Int) {q : Int} (hq : 0 ≤ q) : lat (L.set i.toNat v) q = if q = i then v else lat L q := by
  unfold lat
  rw [List.getD_eq_getElem?_getD, List.getD_eq_getElem?_getD, List.getElem?_set]
  by_cases e : q = i
  · rw [if_pos e, if_pos (by omega), if_pos (by omega)]; rfl
  · rw [if_neg e, if_neg (by omega)]
theorem lat_rep (n : Nat) (q : Int) : lat (List.replicate n 0) q = 0 := by
  unfold lat
  rw [List.getD_eq_getElem?_getD, List.getElem?_replicate]
  split <;> rfl
theorem lenV_bounds {a0 a1 a2 a3 a4 : Int} (h : GG a0 a1 a2 a3 a4) {zone n s : Int} (hn0 : 0 ≤ n) (hn1 : n ≤ (a0 - 1) * a2) (h0 : 0 ≤ s) (h1 : s < a0) :
    0 ≤ n / (a0 - 1) ∧ n / (a0 - 1) ≤ lenV a0 zone n s ∧ lenV a0 zone n s ≤ n / (a0 - 1) + 1 ∧ lenV a0 zone n s ≤ a2 ∧ n / (a0 - 1) ≤ a2 := by
  have hg : 3 ≤ a0 ∧ a2 ≤ 256 := ⟨h.1, h.2.2.2.2.2.1⟩
  have hp := par_range a0 zone (n / (a0 - 1)) hg.1
  have hq0 := Int.ediv_nonneg hn0 (show 0 ≤ a0 - 1 by omega)
  have hb : n / (a0 - 1) ≤ a2 := by
    have := Int.ediv_le_ediv (show 0 < a0 - 1 by omega) hn1
    rwa [Int.mul_ediv_cancel_left _ (by omega)] at this
  have hm0 := Int.emod_nonneg n (show a0 - 1 ≠ 0 by omega)
  have hdm := Int.emod_add_mul_ediv n (a0 - 1)
  unfold lenV
  by_cases hc : s ≠ (zone + n / (a0 - 1)) % a0 ∧ kOf a0 ((zone + n / (a0 - 1)) % a0) s < n % (a0 - 1)
  · rw [if_pos hc]
    have hk := kOf_range hp.1 hp.2 h0 h1 hc.1
    have : n / (a0 - 1) ≠ a2 := by
      intro e
      rw [e] at hdm
      omega
    omega
  · rw [if_neg hc]; omega
/-! ### what a spot holds, and what Lengths says -/
section
variable {a0 a1 a2 a3 a4 : Int}
theorem par_out (k : Nat) {z r : Int} (t : ¬ (GG a0 a1 a2 a3 a4 ∧ 0 ≤ z ∧ z < a1 - 3 ∧ 0 ≤ r ∧ r < a2)) : geom_Parity k a0 a1 a2 a3 a4 z r = some (-1) := by
  unfold geom_Parity
  by_cases g : GG a0 a1 a2 a3 a4
  · rw [there_yes k g, decide_eq_false (fun x => t ⟨g, x⟩)]; rfl
  · rw [there_no k g]; rfl
theorem back_in (k : Nat) (g : GG a0 a1 a2 a3 a4) {z r s : Int} (t : 0 ≤ z ∧ z < a1 - 3 ∧ 0 ≤ r ∧ r < a2) (s0 : 0 ≤ s) (s1 : s < a0) (h : s ≠ (z + r) % a0) :
    geom_Back k a0 a1 a2 a3 a4 z r s = some (r * (a0 - 1) + kOf a0 ((z + r) % a0) s, true) := by
  have g' := g
  obtain ⟨h1, h2, h3, h4, h5, h6, _⟩ := g'
  have hp := par_range a0 z r h1
  have hk := kOf_range hp.1 hp.2 s0 s1 h
  have hm := mul_row (d := a0) (b := a2) (row := r) h1 t.2.2.1 (by omega)
  have hc := cap_bound g
  unfold geom_Back
  rw [par_yes k g t]
  simp only [optb]
  rw [decide_eq_false (show ¬ (z + r) % a0 < 0 by omega), cond_false, decide_eq_false (show ¬ (z + r) % a0 = s from fun x => h x.symm), cond_false, within_val]
  simp only [optb]
  rw [w64 (n := a0 - 1) (by omega) (by omega), decide_eq_true (show 0 ≤ s ∧ s ≤ a0 - 1 by omega)]
  simp only [Bool.not_true, geom_Back_j0, geom_Back_k1, geom_Back_j1, cond_false]
  rw [decide_eq_false (show ¬ a0 = 0 by omega), cond_false, w64 (n := a0 - 1) (by omega) (by omega), w64 (n := s - (z + r) % a0) (by omega) (by omega), w64 (n := s - (z + r) % a0 - 1) (by omega) (by omega), w64 (n := s - (z + r) % a0 - 1 + a0) (by omega) (by omega), tmod_pos (by omega), kOf_mod hp.1 hp.2 s0 s1 h, w64 (n := r * (a0 - 1)) (by omega) (by omega), w64 (by omega) (by omega)]
theorem back_par (k : Nat) (g : GG a0 a1 a2 a3 a4) {z r : Int} (t : 0 ≤ z ∧ z < a1 - 3 ∧ 0 ≤ r ∧ r < a2) : geom_Back k a0 a1 a2 a3 a4 z r ((z + r) % a0) = some (0, false) := by
  have hp := par_range a0 z r g.1
  unfold geom_Back
  rw [par_yes k g t]
  simp only [optb, decide_true, cond_true]
  rw [decide_eq_false (show ¬ (z + r) % a0 < 0 by omega)]; rfl
theorem back_out (k : Nat) {z r : Int} (t : ¬ (GG a0 a1 a2 a3 a4 ∧ 0 ≤ z ∧ z < a1 - 3 ∧ 0 ≤ r ∧ r < a2)) (s : Int) : geom_Back k a0 a1 a2 a3 a4 z r s = some (0, false) := by
  unfold geom_Back
  rw [par_out k t]; rfl
theorem back_lt (k : Nat) (g : GG a0 a1 a2 a3 a4) {z n s : Int} (z0 : 0 ≤ z) (z1 : z < a1 - 3) (n0 : 0 ≤ n) (n1 : n ≤ (a0 - 1) * a2) (s0 : 0 ≤ s) (s1 : s < a0) :
    ∃ x, geom_Back k a0 a1 a2 a3 a4 z (n / (a0 - 1)) s = some x ∧ (lenV a0 z n s = if x.2 = true ∧ x.1 < n then n / (a0 - 1) + 1 else n / (a0 - 1)) := by
  have h1 := g.1
  have hp := par_range a0 z (n / (a0 - 1)) (by omega)
  have hm0 := Int.emod_nonneg n (show a0 - 1 ≠ 0 by omega)
  have hdm := Int.emod_add_mul_ediv n (a0 - 1)
  have hb := (lenV_bounds g (zone := z) n0 n1 s0 s1)
  rw [Int.mul_comm] at hdm
  unfold lenV
  by_cases hr : n / (a0 - 1) < a2
  · have t : 0 ≤ z ∧ z < a1 - 3 ∧ 0 ≤ n / (a0 - 1) ∧ n / (a0 - 1) < a2 := ⟨z0, z1, hb.1, hr⟩
    by_cases hs : s = (z + n / (a0 - 1)) % a0
    · refine ⟨_, by rw [hs]; exact back_par k g t, ?_⟩
      rw [if_neg (by omega), if_neg (by simp)]; omega
    · refine ⟨_, back_in k g t s0 s1 hs, ?_⟩
      by_cases hk : kOf a0 ((z + n / (a0 - 1)) % a0) s < n % (a0 - 1)
      · rw [if_pos ⟨hs, hk⟩, if_pos ⟨rfl, by simp only; omega⟩]
      · rw [if_neg (by omega), if_neg (by simp only; omega)]; omega
  · refine ⟨_, back_out k (fun x => hr x.2.2.2.2) s, ?_⟩
    have hm : n % (a0 - 1) = 0 := by
      have e : n / (a0 - 1) = a2 := by omega
      rw [e, Int.mul_comm] at hdm
      omega
    have hno : ¬ (s ≠ (z + n / (a0 - 1)) % a0 ∧ kOf a0 ((z + n / (a0 - 1)) % a0) s < n % (a0 - 1)) := by
      rintro ⟨h2, h3⟩
      have := kOf_range hp.1 hp.2 s0 s1 h2
      omega
    rw [if_neg hno, if_neg (by simp)]; omega
theorem lengths_loop {R : Type} (e0 : List Int → Option R) (k : Nat) (g : GG a0 a1 a2 a3 a4) {z n : Int} (z0 : 0 ≤ z) (z1 : z < a1 - 3) (n0 : 0 ≤ n) (n1 : n ≤ (a0 - 1) * a2) : ∀ (m j : Nat) (i : Int) (out : List Int), 0 ≤ i → i ≤ a0 → (a0 - i).toNat = m → m < j → (out.length : Int) = a0 → (∀ q, 0 ≤ q → q < i → lat out q = lenV a0 z n q) →
    plan_Lengths_l1 e0 k z n (n / (a0 - 1)) a0 a0 a1 a2 a3 a4 j i out = e0 (lensL a0 z n) := by
  have hd := g.2.1
  intro m
  induction m with
  | zero =>
    intro j i out i0 i1 hm hj hl hq
    obtain ⟨j, rfl⟩ : ∃ u, j = u + 1 := ⟨j - 1, by omega⟩
    rw [plan_Lengths_l1]; unfold plan_Lengths_l1s
    rw [decide_eq_false (by omega), cond_false]
    congr 1
    have h2 := lensL_length (d := a0) (by omega) z n
    refine lat_ext (by omega) (fun q q0 q1 => ?_)
    rw [lensL_at q0 (by omega)]; exact hq q q0 (by omega)
  | succ m ih =>
    intro j i out i0 i1 hm hj hl hq
    obtain ⟨j, rfl⟩ : ∃ u, j = u + 1 := ⟨j - 1, by omega⟩
    obtain ⟨x, hx, hv⟩ := back_lt k g z0 z1 n0 n1 i0 (show i < a0 by omega)
    have hb := lenV_bounds g (zone := z) n0 n1 i0 (show i < a0 by omega)
    have h6 := g.2.2.2.2.2.1
    rw [plan_Lengths_l1]; unfold plan_Lengths_l1s plan_Lengths_j2 plan_Lengths_k2 plan_Lengths_j3
    rw [decide_eq_true (show i < a0 by omega), cond_true, lenI_eq, decide_eq_true i0, decide_eq_true (show i < (out.length : Int) by omega), lat_some i0 (by omega)]
    simp only [Bool.and_self, cond_true, optb]
    rw [hx]
    simp only [lenI_eq]
    have hls : ((out.set i.toNat (n / (a0 - 1))).length : Int) = a0 := by rw [List.length_set]; exact hl
    have hw : wrap64 (i + 1) = i + 1 := w64 (by omega) (by omega)
    by_cases hc : x.2 = true ∧ x.1 < n
    · rw [if_pos hc] at hv
      rw [hc.1, decide_eq_true hc.2, cond_true, cond_true, decide_eq_true (show i < ((out.set i.toNat (n / (a0 - 1))).length : Int) by omega), lat_some i0 (by omega)]
      simp only [Bool.and_self, cond_true]
      have e1 : lat (out.set i.toNat (n / (a0 - 1))) i = n / (a0 - 1) := by rw [lat_set i0 (by omega) _ i0, if_pos rfl]
      rw [e1, hw, w64 (n := n / (a0 - 1) + 1) (by omega) (by omega)]
      refine ih j (i + 1) _ (by omega) (by omega) (by omega) (by omega) (by rw [List.length_set]; exact hls) (fun q q0 q1 => ?_)
      rw [lat_set i0 (by omega) _ q0]
      by_cases e : q = i
      · rw [if_pos e, e, hv]
      · rw [if_neg e, lat_set i0 (by omega) _ q0, if_neg e]; exact hq q q0 (by omega)
    · rw [if_neg hc] at hv
      have hgo : plan_Lengths_l1 e0 k z n (n / (a0 - 1)) a0 a0 a1 a2 a3 a4 j (i + 1) (out.set i.toNat (n / (a0 - 1))) = e0 (lensL a0 z n) := by
        refine ih j (i + 1) _ (by omega) (by omega) (by omega) (by omega) hls (fun q q0 q1 => ?_)
        rw [lat_set i0 (by omega) _ q0]
        by_cases e : q = i
        · rw [if_pos e, e, hv]
        · rw [if_neg e]; exact hq q q0 (by omega)
      cases h2 : x.2 with
      | true => rw [decide_eq_false (fun y => hc ⟨h2, y⟩), cond_true, cond_false, hw]; exact hgo
      | false => rw [cond_false, cond_false, hw]; exact hgo
def InZN (a0 a1 a2 z n : Int) : Prop := 0 ≤ z ∧ z < a1 - 3 ∧ 0 ≤ n ∧ n ≤ (a0 - 1) * a2
theorem lengths_in (k : Nat) (hk : 100 ≤ k) (g : GG a0 a1 a2 a3 a4) {z n : Int} (h : InZN a0 a1 a2 z n) : plan_Lengths k a0 a1 a2 a3 a4 z n = some (false, lensL a0 z n) := by
  obtain ⟨z0, z1, n0, n1⟩ := h
  have hd := g.1
  have hd' := g.2.1
  have hc := cap_bound g
  unfold plan_Lengths
  rw [good_val, decide_eq_true g, zones_yes k g, cap_yes k g]
  simp only [optb, Bool.not_true, cond_false]
  rw [decide_eq_false (show ¬ z < 0 by omega), cond_false, decide_eq_false (show ¬ a1 - 3 ≤ z by omega), cond_false, decide_eq_false (show ¬ n < 0 by omega), cond_false, decide_eq_false (show ¬ (a0 - 1) * a2 < n by omega)]
  simp only [plan_Lengths_j0, plan_Lengths_k1, cond_false]
  have hr := lenV_bounds g (zone := z) n0 n1 (Int.le_refl 0) (show 0 < a0 by omega)
  have h6 := g.2.2.2.2.2.1
  rw [decide_eq_true (show 0 ≤ a0 by omega), decide_eq_true (Int.le_refl a0), decide_eq_true (show a0 ≤ 1099511627776 by omega), w64 (n := a0 - 1) (by omega) (by omega), decide_eq_false (show ¬ a0 - 1 = 0 by omega), tdiv_pos n0, w64 (n := n / (a0 - 1)) (by omega) (by omega), lenI_eq, List.length_replicate, show ((a0.toNat : Nat) : Int) = a0 by omega]
  simp only [Bool.and_self, cond_true, cond_false]
  exact lengths_loop _ k g z0 z1 n0 n1 _ k 0 _ (Int.le_refl 0) (by omega) rfl (by omega) (by rw [List.length_replicate]; omega) (fun q q0 q1 => absurd q1 (by omega))
theorem lengths_out (k : Nat) {z n : Int} (h : ¬ (GG a0 a1 a2 a3 a4 ∧ InZN a0 a1 a2 z n)) : plan_Lengths k a0 a1 a2 a3 a4 z n = some (true, []) := by
  unfold plan_Lengths
  rw [good_val]
  by_cases g : GG a0 a1 a2 a3 a4
  · rw [decide_eq_true g, zones_yes k g, cap_yes k g]
    simp only [optb, Bool.not_true, cond_false]
    by_cases h1 : z < 0
    · rw [decide_eq_true h1]; rfl
    rw [decide_eq_false h1, cond_false]
    by_cases h2 : a1 - 3 ≤ z
    · rw [decide_eq_true h2]; rfl
    rw [decide_eq_false h2, cond_false]
    by_cases h3 : n < 0
    · rw [decide_eq_true h3]; rfl
    rw [decide_eq_false h3, cond_false, decide_eq_true (show (a0 - 1) * a2 < n by have : ¬ InZN a0 a1 a2 z n := fun x => h ⟨g, x⟩; unfold InZN at this; omega)]; rfl
  · rw [decide_eq_false g]; rfl
end
/-! ### what Decide says -/
noncomputable def moreV (W L : List Int) (m : Int) : Nat → List Int
  | 0 => []
  | n + 1 => bif dc ((n : Int) ≠ m ∧ lat W n < lat L n) then moreV W L m n ++ [(n : Int)] else moreV W L m n
theorem moreV_len (W L : List Int) (m : Int) (n : Nat) : (moreV W L m n).length ≤ n := by
  induction n with
  | zero => exact Nat.le_refl 0
  | succ n ih =>
    unfold moreV
    cases dc _ with
    | true => rw [cond_true, List.length_append, List.length_singleton]; omega
    | false => rw [cond_false]; omega
theorem moreV_mem (W L : List Int) (m : Int) (n : Nat) : ∀ x ∈ moreV W L m n, 0 ≤ x ∧ x < n ∧ x ≠ m ∧ lat W x < lat L x := by
  induction n with
  | zero => intro x h; exact absurd h List.not_mem_nil
  | succ n ih =>
    intro x h
    unfold moreV at h
    by_cases hc : (n : Int) ≠ m ∧ lat W n < lat L n
    · rw [dc_t hc, cond_true, List.mem_append, List.mem_singleton] at h
      rcases h with h | rfl
      · have := ih x h; exact ⟨this.1, by omega, this.2.2⟩
      · exact ⟨by omega, by omega, hc⟩
    · rw [dc_f hc, cond_false] at h
      have := ih x h; exact ⟨this.1, by omega, this.2.2⟩
theorem moreV_congr {W L W' L' : List Int} {m : Int} (n : Nat) (h : ∀ q : Nat, q < n → (q : Int) ≠ m → (lat W q < lat L q ↔ lat W' q < lat L' q)) : moreV W L m n = moreV W' L' m n := by
  induction n with
  | zero => rfl
  | succ n ih =>
    unfold moreV
    rw [ih (fun q hq => h q (by omega)), dc_congr (P := (n : Int) ≠ m ∧ lat W n < lat L n) (Q := (n : Int) ≠ m ∧ lat W' n < lat L' n) ⟨fun x => ⟨x.1, (h n (by omega) x.1).1 x.2⟩, fun x => ⟨x.1, (h n (by omega) x.1).2 x.2⟩⟩]
theorem moreV_nil {W L : List Int} {m : Int} (n : Nat) (h : ∀ q : Nat, q < n → (q : Int) ≠ m → ¬ lat W q < lat L q) : moreV W L m n = [] := by
  induction n with
  | zero => rfl
  | succ n ih => unfold moreV; rw [ih (fun q hq => h q (by omega)), dc_f (fun x => h n (by omega) x.1 x.2)]; rfl
def DecOK (a0 a1 a2 a3 a4 z n : Int) (L : List Int) (m : Int) : Prop := (GG a0 a1 a2 a3 a4 ∧ InZN a0 a1 a2 z n) ∧ (L.length : Int) = a0 ∧ -1 ≤ m ∧ m < a0 ∧ ∀ q : Int, 0 ≤ q → q < L.length → 0 ≤ lat L q ∧ lat L q ≤ a2
def OneLess (a0 z n : Int) (W L more less : List Int) : Prop := more = [] ∧ 0 ≤ n / (a0 - 1) - 1 ∧ ∃ s, less = [s] ∧ s = (z + (n / (a0 - 1) - 1)) % a0 ∧ lat L s = lat W s - 1
noncomputable def decV (a0 z n : Int) (W L more less : List Int) : Int × (Int × Int) :=
  bif dc (more = [] ∧ less = []) then (0, 0, 0) else bif decide (n = 0) then (3, 0, 0) else bif dc (OneLess a0 z n W L more less) then (1, less.headD 0, n / (a0 - 1) - 1) else (2, 0, 0)
section
variable {a0 a1 a2 a3 a4 : Int}
theorem dec_loop {R : Type} (e0 : List Int → List Int → Option R) (k : Nat) (m : Int) {L W : List Int} (hl : L.length ≤ 100) (hw : W.length = L.length) : ∀ (u j i : Nat), L.length - i = u → i ≤ L.length → u < j →
    mend_Decide_l1 e0 k m L L.length W j i (moreV W L m i) (moreV L W m i) = e0 (moreV W L m L.length) (moreV L W m L.length) := by
  intro u
  induction u with
  | zero =>
    intro j i hu hi hj
    obtain ⟨j, rfl⟩ : ∃ u, j = u + 1 := ⟨j - 1, by omega⟩
    rw [mend_Decide_l1]; unfold mend_Decide_l1s
    rw [decide_eq_false (by omega), cond_false, show i = L.length by omega]
  | succ u ih =>
    intro j i hu hi hj
    obtain ⟨j, rfl⟩ : ∃ u, j = u + 1 := ⟨j - 1, by omega⟩
    rw [← ih j (i + 1) (by omega) (by omega) (by omega)]
    rw [mend_Decide_l1]; unfold mend_Decide_l1s mend_Decide_j2 mend_Decide_j3 mend_Decide_k2
    have hi' : (i : Int) < L.length := by omega
    have h1 := moreV_len W L m i
    have h2 := moreV_len L W m i
    rw [decide_eq_true hi', decide_eq_true (show (0 : Int) ≤ i by omega), cond_true, cond_true, lat_some (by omega) hi', lenI_eq, decide_eq_true (show (i : Int) < W.length by omega), lat_some (L := W) (by omega) (by omega)]
    simp only [optb, Bool.and_self, cond_true, List.length_singleton]
    rw [decide_eq_true (show (moreV W L m i).length + 1 ≤ 1099511627776 by omega), decide_eq_true (show (moreV L W m i).length + 1 ≤ 1099511627776 by omega), w64 (by omega) (by omega)]
    show _ = mend_Decide_l1 e0 k m L L.length W j ((i + 1 : Nat) : Int) (bif dc ((i : Int) ≠ m ∧ lat W i < lat L i) then moreV W L m i ++ [(i : Int)] else moreV W L m i) (bif dc ((i : Int) ≠ m ∧ lat L i < lat W i) then moreV L W m i ++ [(i : Int)] else moreV L W m i)
    by_cases e : (i : Int) = m
    · rw [decide_eq_true e, dc_f (fun x => x.1 e), dc_f (fun x => x.1 e)]; rfl
    · rw [decide_eq_false e, cond_false]
      by_cases c1 : lat W i < lat L i
      · rw [decide_eq_true c1, dc_t ⟨e, c1⟩, dc_f (fun x => by have := x.2; omega)]; rfl
      · rw [decide_eq_false c1, dc_f (fun x => c1 x.2)]
        by_cases c2 : lat L i < lat W i
        · rw [decide_eq_true c2, dc_t ⟨e, c2⟩]; rfl
        · rw [decide_eq_false c2, dc_f (fun x => c2 x.2)]; rfl
theorem dec_end (k : Nat) (g : GG a0 a1 a2 a3 a4) {z n : Int} (hz : InZN a0 a1 a2 z n) {L W more less : List Int} (hL : (L.length : Int) = a0) (hW : (W.length : Int) = a0) (hm : more.length ≤ 20) (hs : less.length ≤ 20) (hms : ∀ x ∈ less, 0 ≤ x ∧ x < a0) (hwb : ∀ q : Int, 0 ≤ q → q < a0 → 0 ≤ lat W q ∧ lat W q ≤ 256) :
    (bif (decide ((wrap64 (a0 - (1 : Int))) = (0 : Int))) then none
      else bif (decide ((wrap64 ((lenI more) + (lenI less))) = (0 : Int))) then some (((0 : Int), ((0 : Int), (0 : Int))), (0 : Int))
      else mend_Decide_j4 (fun v va vb vc => some ((va, (vb, vc)), v)) (mend_Decide_j6 (fun v va vb vc => some ((va, (vb, vc)), v)) k) k z L (wrap64 ((wrap64 (Int.tdiv n (wrap64 (a0 - (1 : Int))))) - (1 : Int))) (decide (n = (0 : Int))) a0 a1 a2 a3 a4 W more less)
      = some (decV a0 z n W L more less, 0) := by
  obtain ⟨z0, z1, n0, n1⟩ := hz
  have h1 := g.1
  have h1' := g.2.1
  have h6 := g.2.2.2.2.2.1
  have hr := lenV_bounds g (zone := z) n0 n1 (Int.le_refl 0) (show 0 < a0 by omega)
  rw [w64 (n := a0 - 1) (by omega) (by omega), decide_eq_false (show ¬ a0 - 1 = 0 by omega), cond_false, lenI_eq, lenI_eq, w64 (n := (more.length : Int) + less.length) (by omega) (by omega), tdiv_pos n0, w64 (n := n / (a0 - 1)) (by omega) (by omega), w64 (n := n / (a0 - 1) - 1) (by omega) (by omega)]
  unfold decV
  by_cases c0 : more = [] ∧ less = []
  · obtain ⟨rfl, rfl⟩ := c0
    rw [dc_t ⟨rfl, rfl⟩]; rfl
  rw [dc_f c0, decide_eq_false (show ¬ (more.length : Int) + less.length = 0 from fun x => c0 ⟨List.length_eq_zero_iff.1 (by omega), List.length_eq_zero_iff.1 (by omega)⟩)]
  simp only [cond_false, mend_Decide_j4]
  by_cases c1 : n = 0
  · rw [decide_eq_true c1]; rfl
  rw [decide_eq_false c1]
  simp only [cond_false, lenI_eq, mend_Decide_j6, mend_Decide_k3, mend_Decide_k4]
  by_cases c2 : more = []
  · subst c2
    rw [List.length_nil, decide_eq_true (show ((0 : Nat) : Int) = 0 from rfl), cond_true]
    by_cases c3 : (less.length : Int) = 1
    · obtain ⟨s, rfl⟩ := List.length_eq_one_iff.1 (show less.length = 1 by omega)
      obtain ⟨s0, s1⟩ := hms s (List.mem_singleton.2 rfl)
      rw [List.length_singleton, decide_eq_true (show ((1 : Nat) : Int) = 1 from rfl), decide_eq_true (show (0 : Int) < ((1 : Nat) : Int) by decide), cond_true, cond_true]
      rw [show ([s] : List Int)[(0 : Int).toNat]? = some s from rfl]
      simp only [optb, cond_true]
      by_cases c4 : 0 ≤ n / (a0 - 1) - 1
      · rw [decide_eq_true c4, cond_true, par_yes k g ⟨z0, z1, c4, by omega⟩]
        simp only [optb]
        have hwl : -9223372036854775808 ≤ lat W s - 1 ∧ lat W s - 1 ≤ 9223372036854775807 := by have := hwb s s0 s1; omega
        by_cases c5 : s = (z + (n / (a0 - 1) - 1)) % a0
        · rw [decide_eq_true c5, cond_true, decide_eq_true s0, cond_true, lat_some (L := L) s0 (by omega)]
          simp only
          rw [decide_eq_true (show s < (W.length : Int) by omega), lat_some (L := W) s0 (by omega)]
          simp only [Bool.and_self, cond_true]
          rw [w64 hwl.1 hwl.2]
          by_cases c6 : lat L s = lat W s - 1
          · rw [decide_eq_true c6, dc_t (show OneLess a0 z n W L [] [s] from ⟨rfl, c4, s, rfl, c5, c6⟩)]; rfl
          · rw [decide_eq_false c6, dc_f (fun x : OneLess a0 z n W L [] [s] => by
              obtain ⟨_, _, t, ht, _, h⟩ := x
              rw [List.singleton_inj.1 ht] at c6
              exact c6 h)]; rfl
        · rw [decide_eq_false c5, dc_f (fun x : OneLess a0 z n W L [] [s] => by
              obtain ⟨_, _, t, ht, h, _⟩ := x
              rw [List.singleton_inj.1 ht] at c5
              exact c5 h)]; rfl
      · rw [decide_eq_false c4, dc_f (fun x : OneLess a0 z n W L [] [s] => c4 x.2.1)]; rfl
    · rw [decide_eq_false c3, dc_f (fun x : OneLess a0 z n W L [] less => by
        obtain ⟨_, _, t, rfl, _⟩ := x
        exact c3 rfl)]; rfl
  · rw [decide_eq_false (show ¬ (more.length : Int) = 0 from fun x => c2 (List.length_eq_zero_iff.1 (by omega))), dc_f (fun x : OneLess a0 z n W L more less => c2 x.1)]; rfl
theorem dec_in (k : Nat) (hk : 200 ≤ k) (la : Bool) (L : List Int) (m : Int) {z n : Int} (h : DecOK a0 a1 a2 a3 a4 z n L m) :
    mend_Decide k a0 a1 a2 a3 a4 z n la L m = some (decV a0 z n (lensL a0 z n) L (moreV (lensL a0 z n) L m L.length) (moreV L (lensL a0 z n) m L.length), 0) := by
  obtain ⟨⟨g, hz⟩, hl, m0, m1, hq⟩ := h
  have h1 := g.1
  have h1' := g.2.1
  have h6 := g.2.2.2.2.2.1
  unfold mend_Decide
  rw [lengths_in k (by omega) g hz]
  simp only [optb, Bool.false_and, cond_false, lenI_eq]
  rw [decide_eq_true hl, decide_eq_false (show ¬ m < -1 by omega), decide_eq_false (show ¬ a0 ≤ m by omega)]
  simp only [Bool.not_true, cond_false]
  have hwl := lensL_length (d := a0) (by omega) z n
  rw [loopAll (mend_Decide_i58_3_l0 _ _ k L L.length a2) 0 L.length (fun _ => True) _ none
    (fun j i i0 i1 hp => by
      rw [mend_Decide_i58_3_l0]; unfold mend_Decide_i58_3_l0s mend_Decide_i58_3_j1
      have := hq i i0 i1
      rw [decide_eq_true i1, decide_eq_true i0, cond_true, cond_true, lat_some i0 i1]
      simp only [optb]
      rw [decide_eq_false (show ¬ lat L i < 0 by omega), decide_eq_false (show ¬ a2 < lat L i by omega), cond_false, cond_false, w64 (by omega) (by omega)])
    (fun j i i0 i1 hp => absurd trivial hp)
    (fun j i i0 i1 => by
      rw [mend_Decide_i58_3_l0]; unfold mend_Decide_i58_3_l0s
      rw [decide_eq_false (by omega), cond_false]) k 0 (by omega) (by omega), dc_t (fun _ _ _ => trivial), cond_true]
  simp only [mend_Decide_j0, cond_false, mend_Decide_k1, lenI_eq]
  have hloop := dec_loop (fun more less => bif (decide ((wrap64 (a0 - (1 : Int))) = (0 : Int))) then none
      else bif (decide ((wrap64 ((lenI more) + (lenI less))) = (0 : Int))) then some (((0 : Int), ((0 : Int), (0 : Int))), (0 : Int))
      else mend_Decide_j4 (fun v va vb vc => some ((va, (vb, vc)), v)) (mend_Decide_j6 (fun v va vb vc => some ((va, (vb, vc)), v)) k) k z L (wrap64 ((wrap64 (Int.tdiv n (wrap64 (a0 - (1 : Int))))) - (1 : Int))) (decide (n = (0 : Int))) a0 a1 a2 a3 a4 (lensL a0 z n) more less) k m (L := L) (W := lensL a0 z n) (by omega) (by omega) L.length k 0 (by omega) (by omega) (by omega)
  have hx := moreV_len (lensL a0 z n) L m L.length
  have hy := moreV_len L (lensL a0 z n) m L.length
  have he := dec_end k g hz (W := lensL a0 z n) (more := moreV (lensL a0 z n) L m L.length) (less := moreV L (lensL a0 z n) m L.length) hl hwl (by omega) (by omega)
    (fun x hx => by have := moreV_mem L (lensL a0 z n) m L.length x hx; omega) (fun q q0 q1 => by
      rw [lensL_at q0 q1]
      have := lenV_bounds g (zone := z) hz.2.2.1 hz.2.2.2 q0 q1
      omega)
  simp only [lenI_eq] at hloop he
  exact hloop.trans he
end
/-! ### what a view may hold -/
def okx (rows x : Int) : Prop := 0 ≤ x ∧ x ≤ rows
def CAN (a0 a1 a2 a3 a4 : Int) (L : List Int) (m : Int) : Prop := GG a0 a1 a2 a3 a4 ∧ (L.length : Int) = a0 ∧ -1 ≤ m ∧ m < a0 ∧ ∀ q : Int, 0 ≤ q → q < L.length → okx a2 (lat L q)
/-! ### what the tail says -/
def has (L : List Int) (m s r : Int) : Prop := s ≠ m ∧ r < lat L s
/-- every slot of a run of places but one's own is there -/
def allB (d z r : Int) (L : List Int) (m p least wide : Int) : Prop := ∀ q, least ≤ q → q < wide → q ≠ p → has L m (sl d z r q) r
section
variable {a0 a1 a2 a3 a4 : Int}
theorem can_val (k : Nat) (hk : 100 ≤ k) (va : Bool) (L : List Int) (m : Int) (vd : Bool) (ve : List (Int × Int)) :
    tail_View_can k va L m vd ve a0 a1 a2 a3 a4 = some (dc (CAN a0 a1 a2 a3 a4 L m)) := by
  unfold tail_View_can
  rw [good_val]
  simp only [optb, lenI_eq]
  by_cases g : GG a0 a1 a2 a3 a4
  · rw [decide_eq_true g, cond_true]
    by_cases h1 : (L.length : Int) = a0
    · rw [decide_eq_true h1, cond_true]
      by_cases h2 : -1 ≤ m
      · rw [decide_eq_true h2, cond_true]
        by_cases h3 : m < a0
        · rw [decide_eq_true h3, cond_true]
          have hd : a0 ≤ 16 := g.2.1
          rcases loopUp (tail_View_can_i58_2_l0 (fun v => some (!(decide ((0 : Int) ≤ v)))) (some true) k L L.length a2) 0 L.length (fun q => okx a2 (lat L q)) (some true) (fun _ => some false)
            (fun j i i0 i1 hp => by
              rw [tail_View_can_i58_2_l0]; unfold tail_View_can_i58_2_l0s tail_View_can_i58_2_j1
              rw [decide_eq_true i1, decide_eq_true i0, cond_true, cond_true, lat_some i0 i1]
              simp only [optb]
              rw [decide_eq_false (show ¬ lat L i < 0 from fun x => by have := hp.1; omega), decide_eq_false (show ¬ a2 < lat L i from fun x => by have := hp.2; omega)]
              simp only [cond_false]
              rw [w64 (by omega) (by omega)])
            (fun j i i0 i1 hp => by
              rw [tail_View_can_i58_2_l0]; unfold tail_View_can_i58_2_l0s tail_View_can_i58_2_j1
              rw [decide_eq_true i1, decide_eq_true i0, cond_true, cond_true, lat_some i0 i1]
              simp only [optb]
              by_cases hx : lat L i < 0
              · rw [decide_eq_true hx, cond_true, cond_true, decide_eq_true i0]; rfl
              · rw [decide_eq_false hx, cond_false, decide_eq_true (show a2 < lat L i from by have : ¬ (0 ≤ lat L i ∧ lat L i ≤ a2) := hp; omega), cond_true, decide_eq_true i0]; rfl)
            (fun j i i0 i1 => by
              rw [tail_View_can_i58_2_l0]; unfold tail_View_can_i58_2_l0s
              rw [decide_eq_false (by omega), cond_false]) _ k 0 (by omega) rfl (by omega) with ⟨h4, h5⟩ | ⟨q, q0, q1, h4, _, h5⟩
          · rw [h5, dc_t ⟨g, h1, h2, h3, h4⟩]
          · rw [h5, dc_f (fun x => h4 (x.2.2.2.2 q q0 q1))]
        · rw [decide_eq_false h3, dc_f (fun x => h3 x.2.2.2.1)]; rfl
      · rw [decide_eq_false h2, dc_f (fun x => h2 x.2.2.1)]; rfl
    · rw [decide_eq_false h1, dc_f (fun x => h1 x.2.1)]; rfl
  · rw [decide_eq_false g, dc_f (fun x => g x.1)]; rfl
theorem slot_val (k : Nat) (g : GG a0 a1 a2 a3 a4) {z r : Int} (t : 0 ≤ z ∧ z < a1 - 3 ∧ 0 ≤ r ∧ r < a2) {q : Int} (p0 : -1 ≤ q) (p1 : q < 1000) (sa : Bool) (L : List Int) (m : Int) (sd : Bool) (ns : List (Int × Int)) (sm : Int) :
    tail_spot_slot k sa L m sd ns a0 a1 a2 a3 a4 z r sm q = some (sl a0 z r q) := by
  unfold tail_spot_slot tail_spot_slot_j0
  rw [par_yes k g t]
  simp only [optb]
  rw [decide_eq_false (show ¬ a0 = 0 by have := g.1; omega), cond_false, slot_par k g t p0 p1]
theorem has_val (k : Nat) (va : Bool) (L : List Int) (m : Int) (vd : Bool) (ns : List (Int × Int)) {s r : Int} (s0 : 0 ≤ s) (s1 : s < L.length) :
    tail_View_has k va L m vd ns s r = some (dc (has L m s r)) := by
  unfold tail_View_has
  by_cases h : s = m
  · rw [decide_eq_true h, dc_f (fun x => x.1 h)]; rfl
  · rw [decide_eq_false h, decide_eq_true s0]
    simp only [Bool.not_false, cond_true]
    rw [lat_some s0 s1]
    simp only [optb]
    rw [dc_dec]; exact congrArg some (dc_congr ⟨fun x => ⟨h, x⟩, fun x => x.2⟩)
theorem others_val (k : Nat) (hk : 100 ≤ k) (g : GG a0 a1 a2 a3 a4) {z r : Int} (t : 0 ≤ z ∧ z < a1 - 3 ∧ 0 ≤ r ∧ r < a2) (sa : Bool) (L : List Int) (m : Int) (hL : (L.length : Int) = a0) (sd : Bool) (ns : List (Int × Int)) (p : Int) {least wide : Int} (l0 : -1 ≤ least) (w1 : wide < a0) :
    tail_spot_others k sa L m sd ns a0 a1 a2 a3 a4 z r p least wide = some (dc (allB a0 z r L m p least wide)) := by
  unfold tail_spot_others
  have hd := g.2.1
  rw [loopAll (tail_spot_others_l0 (fun v => some v) (some true) k wide sa L m sd ns a0 a1 a2 a3 a4 z r p) (-1) wide (fun q => q ≠ p → has L m (sl a0 z r q) r) (some true) (some false)
    (fun j i i0 i1 hp => by
      rw [tail_spot_others_l0]; unfold tail_spot_others_l0s tail_spot_others_j1 tail_spot_others_k1 tail_spot_others_j2
      rw [decide_eq_true i1, cond_true]
      by_cases e : i = p
      · rw [decide_eq_true e, Bool.not_true, cond_false, cond_false, w64 (by omega) (by omega)]
      · rw [decide_eq_false e, Bool.not_false, cond_true, slot_val k g t (by omega) (by omega)]
        have hs := sl_lt (show 0 < a0 by have := g.1; omega) z r i
        simp only [optb]
        rw [has_val k sa L m sd ns hs.1 (by omega), dc_t (hp e)]
        simp only [Bool.not_true, cond_false]
        rw [w64 (by omega) (by omega)])
    (fun j i i0 i1 hp => by
      rw [tail_spot_others_l0]; unfold tail_spot_others_l0s tail_spot_others_j1
      rw [decide_eq_true i1, cond_true]
      by_cases e : i = p
      · exact absurd (fun x => absurd e x) hp
      · rw [decide_eq_false e, Bool.not_false, cond_true, slot_val k g t (by omega) (by omega)]
        have hs := sl_lt (show 0 < a0 by have := g.1; omega) z r i
        simp only [optb]
        rw [has_val k sa L m sd ns hs.1 (by omega), dc_f (fun x => hp (fun _ => x))]; rfl)
    (fun j i i0 i1 => by
      rw [tail_spot_others_l0]; unfold tail_spot_others_l0s
      rw [decide_eq_false (by omega), cond_false]) k least l0 (by omega)]
  unfold allB
  cases dc _ <;> rfl
def noteR (ns : List (Int × Int)) (i : Int) : Int := (ns.getD i.toNat (0, 0)).1
def noteW (ns : List (Int × Int)) (i : Int) : Int := (ns.getD i.toNat (0, 0)).2
theorem note_some {ns : List (Int × Int)} (i : Nat) (h : i < ns.length) : ns[((i : Int)).toNat]? = some (noteR ns i, noteW ns i) := by
  unfold noteR noteW
  rw [Int.toNat_natCast, List.getD_eq_getElem?_getD, List.getElem?_eq_getElem h]; rfl
/-- a note that helps -/
def helps (d z r : Int) (L : List Int) (m p : Int) (ns : List (Int × Int)) (i : Int) : Prop := noteR ns i = r ∧ p < noteW ns i ∧ noteW ns i ≤ d - 1 ∧ allB d z r L m p 0 (noteW ns i)
noncomputable def srcV (d z r p : Int) (L : List Int) (m : Int) (ns : List (Int × Int)) : Int × Int :=
  bif dc (has L m (sl d z r p) r) then (1, 0) else bif dc (sl d z r p ≠ m) then (0, 0) else bif dc (allB d z r L m p (-1) (d - 1)) then (2, 0)
  else bif decide (0 ≤ lastI (helps d z r L m p ns) ns.length) then (3, lastI (helps d z r L m p ns) ns.length) else (0, 0)
theorem spot_val (k : Nat) (g : GG a0 a1 a2 a3 a4) {z r : Int} (t : 0 ≤ z ∧ z < a1 - 3 ∧ 0 ≤ r ∧ r < a2) (sa : Bool) (L : List Int) (m : Int) (hL : (L.length : Int) = a0) (sd : Bool) (ns : List (Int × Int)) (hk : ns.length + 100 ≤ k) (hn : ns.length < 1000000) {p : Int} (p0 : 0 ≤ p) (p1 : p < a0 - 1) :
    tail_spot_source k sa L m sd ns a0 a1 a2 a3 a4 z r p = some (srcV a0 z r p L m ns) := by
  unfold tail_spot_source
  have hd := g.2.1
  have hs := sl_lt (show 0 < a0 by have := g.1; omega) z r p
  rw [slot_val k g t (by omega) (by omega)]
  simp only [optb]
  rw [has_val k sa L m sd ns hs.1 (by omega)]
  simp only [optb]
  unfold srcV
  by_cases h1 : has L m (sl a0 z r p) r
  · rw [dc_t h1]; rfl
  rw [dc_f h1]
  simp only [cond_false]
  by_cases h2 : sl a0 z r p = m
  · rw [decide_eq_true h2, dc_f (fun x : sl a0 z r p ≠ m => x h2), w64 (n := a0 - 1) (by omega) (by omega), others_val k (by omega) g t sa L m hL sd ns p (by omega) (by omega)]
    simp only [optb, Bool.not_true, cond_false]
    by_cases h3 : allB a0 z r L m p (-1) (a0 - 1)
    · rw [dc_t h3]; rfl
    rw [dc_f h3]
    simp only [cond_false, tail_spot_source_j0, lenI_eq]
    rw [w64 (by omega) (by omega)]
    rw [loopDown (tail_spot_source_l1 (fun v w => some (v, w)) (some (0, 0)) k (a0 - 1) sa L m sd ns a0 a1 a2 a3 a4 z r p) ns.length (helps a0 z r L m p ns) (fun i => some (3, i)) (some (0, 0))
      (fun j i hi hp => by
        rw [tail_spot_source_l1]; unfold tail_spot_source_l1s tail_spot_source_j2 tail_spot_source_k0
        rw [decide_eq_true (show (0 : Int) ≤ i by omega), cond_true, cond_true, note_some i hi]
        simp only [optb]
        rw [decide_eq_true hp.1, decide_eq_true hp.2.1, decide_eq_true hp.2.2.1]
        simp only [cond_true]
        rw [others_val k (by omega) g t sa L m hL sd ns p (by omega) (by have := hp.2.2.1; omega)]
        simp only [optb]
        rw [dc_t hp.2.2.2]; rfl)
      (fun j i hi hp => by
        rw [tail_spot_source_l1]; unfold tail_spot_source_l1s tail_spot_source_j2 tail_spot_source_k1 tail_spot_source_j3
        rw [decide_eq_true (show (0 : Int) ≤ i by omega), cond_true, cond_true, note_some i hi]
        simp only [optb]
        have hw : wrap64 ((i : Int) - 1) = (i : Int) - 1 := w64 (by omega) (by omega)
        by_cases e1 : noteR ns i = r
        · by_cases e2 : p < noteW ns i
          · by_cases e3 : noteW ns i ≤ a0 - 1
            · rw [decide_eq_true e1, decide_eq_true e2, decide_eq_true e3]
              simp only [cond_true]
              rw [others_val k (by omega) g t sa L m hL sd ns p (by omega) (by omega)]
              simp only [optb]
              rw [dc_f (fun x => hp ⟨e1, e2, e3, x⟩), cond_false, hw]
            · rw [decide_eq_true e1, decide_eq_true e2, decide_eq_false e3]
              simp only [cond_true, cond_false, hw]
          · rw [decide_eq_true e1, decide_eq_false e2]
            simp only [cond_true, cond_false, hw]
        · rw [decide_eq_false e1]
          simp only [cond_false, hw])
      (fun j => by
        rw [tail_spot_source_l1]; unfold tail_spot_source_l1s
        rfl) ns.length k (Nat.le_refl _) (by omega)]
    cases decide (0 ≤ lastI (helps a0 z r L m p ns) ns.length) <;> rfl
  · rw [decide_eq_false h2, dc_t h2]; rfl
noncomputable def blkV (d z : Int) (L : List Int) (m : Int) (ns : List (Int × Int)) (b : Int) : Int × Int := srcV d z (b / (d - 1)) (b % (d - 1)) L m ns
theorem source_yes (k : Nat) (sa : Bool) (L : List Int) (m : Int) (sd : Bool) (ns : List (Int × Int)) (c : CAN a0 a1 a2 a3 a4 L m) {z b : Int} (z0 : 0 ≤ z) (z1 : z < a1 - 3) (b0 : 0 ≤ b) (b1 : b < (a0 - 1) * a2)
    (hk : ns.length + 100 ≤ k) (hn : ns.length < 1000000) : tail_Source k a0 a1 a2 a3 a4 z sa L m sd ns b = some (blkV a0 z L m ns b) := by
  unfold tail_Source
  have g := c.1
  have hr := block_row (rows := a2) (by have := g.1; omega) b0 b1
  rw [can_val k (by omega), dc_t c, place_yes k g z0 z1 b0 b1]
  simp only [optb, Bool.not_true, cond_false, tail_Source_j0]
  have hd := g.2.1
  have hd' := g.1
  rw [w64 (n := a0 - 1) (by omega) (by omega), decide_eq_false (show ¬ a0 - 1 = 0 by omega), cond_false, tmod_pos b0, spot_val k g ⟨z0, z1, hr.1, hr.2.1⟩ sa L m c.2.1 sd ns hk hn hr.2.2.1 hr.2.2.2]; rfl
theorem source_no (k : Nat) (sa : Bool) (L : List Int) (m : Int) (sd : Bool) (ns : List (Int × Int)) {z b : Int} (c : ¬ (CAN a0 a1 a2 a3 a4 L m ∧ 0 ≤ z ∧ z < a1 - 3 ∧ 0 ≤ b ∧ b < (a0 - 1) * a2))
    (hk : 100 ≤ k) : tail_Source k a0 a1 a2 a3 a4 z sa L m sd ns b = some (0, 0) := by
  unfold tail_Source
  rw [can_val k (by omega)]
  by_cases h : CAN a0 a1 a2 a3 a4 L m
  · rw [dc_t h, place_no k (fun x => c ⟨h, x.2⟩)]; rfl
  · rw [dc_f h]; rfl
end
/-! ### how long the tail is -/
noncomputable def srcT (a0 a1 a2 a3 a4 z : Int) (L : List Int) (m : Int) (ns : List (Int × Int)) (b : Int) : Int × Int :=
  bif dc (CAN a0 a1 a2 a3 a4 L m ∧ 0 ≤ z ∧ z < a1 - 3 ∧ 0 ≤ b ∧ b < (a0 - 1) * a2) then blkV a0 z L m ns b else (0, 0)
noncomputable def capV (a0 a1 a2 a3 a4 : Int) : Int := bif dc (GG a0 a1 a2 a3 a4) then (a0 - 1) * a2 else 0
/-- the first number without `P`, at most `c` -/
def StopR (c : Int) (P : Int → Prop) (n : Int) : Prop := 0 ≤ n ∧ n ≤ c ∧ (∀ b, 0 ≤ b → b < n → P b) ∧ (n < c → ¬ P n)
theorem stop_mono {c n m : Int} {P Q : Int → Prop} (h : StopR c P n) (h' : StopR c Q m) (hpq : ∀ b, 0 ≤ b → b < c → P b → Q b) : n ≤ m := by
  by_cases e : n ≤ m
  · exact e
  · exact absurd (hpq m h'.1 (by have := h.2.1; omega) (h.2.2.1 m h'.1 (by omega))) (h'.2.2.2 (by have := h.2.1; omega))
section
variable {a0 a1 a2 a3 a4 : Int}
theorem cap_val (k : Nat) : geom_Capacity k a0 a1 a2 a3 a4 = some (capV a0 a1 a2 a3 a4) := by
  unfold capV
  by_cases g : GG a0 a1 a2 a3 a4
  · rw [cap_yes k g, dc_t g]; rfl
  · rw [cap_no k g, dc_f g]; rfl
theorem capV_bound : 0 ≤ capV a0 a1 a2 a3 a4 ∧ capV a0 a1 a2 a3 a4 ≤ 3840 := by
  unfold capV
  by_cases g : GG a0 a1 a2 a3 a4
  · have := cap_bound g; rw [dc_t g]; simp only [cond_true]; omega
  · rw [dc_f g]; simp only [cond_false]; omega
theorem source_val (k : Nat) (sa : Bool) (L : List Int) (m : Int) (sd : Bool) (ns : List (Int × Int)) (z b : Int) (hk : ns.length + 100 ≤ k) (hn : ns.length < 1000000) :
    tail_Source k a0 a1 a2 a3 a4 z sa L m sd ns b = some (srcT a0 a1 a2 a3 a4 z L m ns b) := by
  unfold srcT
  by_cases h : CAN a0 a1 a2 a3 a4 L m ∧ 0 ≤ z ∧ z < a1 - 3 ∧ 0 ≤ b ∧ b < (a0 - 1) * a2
  · rw [source_yes k sa L m sd ns h.1 h.2.1 h.2.2.1 h.2.2.2.1 h.2.2.2.2 hk hn, dc_t h]; rfl
  · rw [source_no k sa L m sd ns h (by omega), dc_f h]; rfl
theorem length_val (k : Nat) (sa : Bool) (L : List Int) (m : Int) (sd : Bool) (ns : List (Int × Int)) (z : Int) (hk : ns.length + 5000 ≤ k) (hn : ns.length < 1000000) :
    ∃ n, tail_Length k a0 a1 a2 a3 a4 z sa L m sd ns = some n ∧ StopR (capV a0 a1 a2 a3 a4) (fun b => (srcT a0 a1 a2 a3 a4 z L m ns b).1 ≠ 0) n := by
  unfold tail_Length
  have hc := @capV_bound a0 a1 a2 a3 a4
  rcases loopTo (tail_Length_l0 (fun n => some n) k z a0 a1 a2 a3 a4 sa L m sd ns) 0 (capV a0 a1 a2 a3 a4) (fun b => (srcT a0 a1 a2 a3 a4 z L m ns b).1 ≠ 0) (some (capV a0 a1 a2 a3 a4)) (fun b => some b)
    (fun j i i0 i1 hp => by
      rw [tail_Length_l0]; unfold tail_Length_l0s
      rw [cap_val]
      simp only [optb]
      rw [decide_eq_true i1, cond_true, source_val k sa L m sd ns z i (by omega) hn]
      simp only [optb]
      rw [decide_eq_false hp, cond_false, w64 (by omega) (by omega)])
    (fun j i i0 i1 hp => by
      rw [tail_Length_l0]; unfold tail_Length_l0s
      rw [cap_val]
      simp only [optb]
      rw [decide_eq_true i1, cond_true, source_val k sa L m sd ns z i (by omega) hn]
      simp only [optb]
      rw [decide_eq_true (Classical.not_not.1 hp)]; rfl)
    (fun j => by
      rw [tail_Length_l0]; unfold tail_Length_l0s
      rw [cap_val]
      simp only [optb]
      rw [decide_eq_false (Int.lt_irrefl _)]; rfl) _ k 0 (by omega) hc.1 rfl (by omega) with ⟨h1, h2⟩ | ⟨n, n0, n1, h1, h2, h3⟩
  · exact ⟨_, h2, hc.1, by omega, h1, fun h => absurd h (by omega)⟩
  · exact ⟨n, h3, n0, by omega, h2, fun _ => h1⟩
end
/-! ### when a block is told -/
theorem kind_iff (d z r p : Int) (L : List Int) (m : Int) (ns : List (Int × Int)) : (srcV d z r p L m ns).1 ≠ 0 ↔ has L m (sl d z r p) r ∨ (sl d z r p = m ∧ (allB d z r L m p (-1) (d - 1) ∨ ∃ q : Nat, q < ns.length ∧ helps d z r L m p ns q)) := by
  unfold srcV
  by_cases h1 : has L m (sl d z r p) r
  · rw [dc_t h1]; exact ⟨fun _ => .inl h1, fun _ => by simp⟩
  rw [dc_f h1, cond_false]
  by_cases h2 : sl d z r p = m
  · rw [dc_f (fun x : sl d z r p ≠ m => x h2), cond_false]
    by_cases h3 : allB d z r L m p (-1) (d - 1)
    · rw [dc_t h3]; exact ⟨fun _ => .inr ⟨h2, .inl h3⟩, fun _ => by simp⟩
    · rw [dc_f h3, cond_false]
      have hl := lastI_no (helps d z r L m p ns) ns.length
      by_cases h4 : 0 ≤ lastI (helps d z r L m p ns) ns.length
      · rw [decide_eq_true h4]; exact ⟨fun _ => .inr ⟨h2, .inr (hl.1 h4)⟩, fun _ => by simp⟩
      · rw [decide_eq_false h4]
        refine ⟨fun x => absurd rfl x, fun x => ?_⟩
        rcases x with x | ⟨_, x | x⟩
        · exact absurd x h1
        · exact absurd x h3
        · exact absurd (hl.2 x) h4
  · rw [dc_t h2]
    refine ⟨fun x => absurd rfl x, fun x => ?_⟩
    rcases x with x | ⟨x, _⟩
    · exact absurd x h1
    · exact absurd x h2
theorem sl_if {d z r q : Int} (hd : 3 ≤ d) (q0 : -1 ≤ q) (q1 : q ≤ d - 2) : sl d z r q = if (z + r) % d + 1 + q < d then (z + r) % d + 1 + q else (z + r) % d + 1 + q - d := by
  have hp0 := Int.emod_nonneg (z + r) (show d ≠ 0 by omega)
  have hp1 := Int.emod_lt_of_pos (z + r) (show 0 < d by omega)
  unfold sl
  split
  · exact Int.emod_eq_of_lt (by omega) (by omega)
  · rw [show (z + r) % d + 1 + q = ((z + r) % d + 1 + q - d) + d by omega, Int.add_emod_right, show (z + r) % d + 1 + q - d + d - d = (z + r) % d + 1 + q - d by omega]; exact Int.emod_eq_of_lt (by omega) (by omega)
theorem sl_inj {d z r q p : Int} (hd : 3 ≤ d) (q0 : -1 ≤ q) (q1 : q ≤ d - 2) (p0 : -1 ≤ p) (p1 : p ≤ d - 2) (h : sl d z r q = sl d z r p) : q = p := by
  rw [sl_if hd q0 q1, sl_if hd p0 p1] at h
  split at h <;> split at h <;> omega
theorem sl_surj {d z r s : Int} (hd : 3 ≤ d) (s0 : 0 ≤ s) (s1 : s < d) : ∃ q, -1 ≤ q ∧ q ≤ d - 2 ∧ sl d z r q = s := by
  have hp0 := Int.emod_nonneg (z + r) (show d ≠ 0 by omega)
  have hp1 := Int.emod_lt_of_pos (z + r) (show 0 < d by omega)
  by_cases h : (z + r) % d ≤ s
  · refine ⟨s - (z + r) % d - 1, by omega, by omega, ?_⟩
    rw [sl_if hd (by omega) (by omega), if_pos (by omega)]; omega
  · refine ⟨s - (z + r) % d - 1 + d, by omega, by omega, ?_⟩
    rw [sl_if hd (by omega) (by omega), if_neg (by omega)]; omega
theorem row_of {d r q : Int} (hd : 3 ≤ d) (q0 : 0 ≤ q) (q1 : q < d - 1) : (r * (d - 1) + q) / (d - 1) = r ∧ (r * (d - 1) + q) % (d - 1) = q := by
  constructor
  · rw [Int.add_comm, Int.add_mul_ediv_right _ _ (by omega), Int.ediv_eq_zero_of_lt q0 q1]; omega
  · rw [Int.add_comm, Int.add_mul_emod_self_right]; exact Int.emod_eq_of_lt q0 q1
/-! ### behind any loss of power -/
theorem moreV_iff (W L : List Int) (m : Int) (n : Nat) : ∀ x, x ∈ moreV W L m n ↔ 0 ≤ x ∧ x < n ∧ x ≠ m ∧ lat W x < lat L x := by
  induction n with
  | zero => intro x; exact ⟨fun h => absurd h List.not_mem_nil, fun h => absurd h.2.1 (by omega)⟩
  | succ n ih =>
    intro x
    unfold moreV
    by_cases hc : (n : Int) ≠ m ∧ lat W n < lat L n
    · rw [dc_t hc, cond_true, List.mem_append, List.mem_singleton, ih x]
      constructor
      · rintro (h | rfl)
        · exact ⟨h.1, by omega, h.2.2⟩
        · exact ⟨by omega, by omega, hc⟩
      · intro h
        by_cases e : x = n
        · exact .inr e
        · exact .inl ⟨h.1, by omega, h.2.2⟩
    · rw [dc_f hc, cond_false, ih x]
      constructor
      · intro h; exact ⟨h.1, by omega, h.2.2⟩
      · intro h
        by_cases e : x = n
        · rw [e] at h; exact absurd h.2.2 hc
        · exact ⟨h.1, by omega, h.2.2⟩
theorem moreV_one {W L : List Int} {m s : Int} (s0 : 0 ≤ s) (n : Nat) (h : ∀ q : Nat, q < n → (((q : Int) ≠ m ∧ lat W q < lat L q) ↔ (q : Int) = s)) : moreV W L m n = if s < n then [s] else [] := by
  induction n with
  | zero => rw [if_neg (by omega)]; rfl
  | succ n ih =>
    unfold moreV
    rw [ih (fun q hq => h q (by omega)), dc_congr (h n (by omega))]
    by_cases e : (n : Int) = s
    · rw [dc_t e, cond_true, if_neg (by omega), if_pos (by omega), ← e]; rfl
    · rw [dc_f e, cond_false]
      by_cases c : s < n
      · rw [if_pos c, if_pos (by omega)]
      · rw [if_neg c, if_neg (by omega)]
section
variable {a0 a1 a2 a3 a4 : Int}
/-- one and the same row, or an earlier one -/
theorem row_le {d b n : Int} (hd : 3 ≤ d) (h : b ≤ n) : b / (d - 1) ≤ n / (d - 1) ∧ (b / (d - 1) = n / (d - 1) → b % (d - 1) ≤ n % (d - 1) ∧ (b < n → b % (d - 1) < n % (d - 1))) := by
  have h1 := Int.emod_add_mul_ediv b (d - 1)
  have h2 := Int.emod_add_mul_ediv n (d - 1)
  refine ⟨Int.ediv_le_ediv (by omega) h, fun e => ?_⟩
  rw [e] at h1
  exact ⟨by omega, fun _ => by omega⟩
theorem at_slot {d z b : Int} (hd : 3 ≤ d) (b0 : 0 ≤ b) : sl d z (b / (d - 1)) (b % (d - 1)) ≠ (z + b / (d - 1)) % d ∧ kOf d ((z + b / (d - 1)) % d) (sl d z (b / (d - 1)) (b % (d - 1))) = b % (d - 1) := by
  have hp := par_range d z (b / (d - 1)) hd
  have m0 := Int.emod_nonneg b (show d - 1 ≠ 0 by omega)
  have m1 := Int.emod_lt_of_pos b (show 0 < d - 1 by omega)
  have hs : sl d z (b / (d - 1)) (b % (d - 1)) = sOf d ((z + b / (d - 1)) % d) (b % (d - 1)) := slotOf_eq hd m0 (by omega)
  rw [hs]
  exact ⟨(sOf_range hp.1 hp.2 m0 (by omega)).2.2, kOf_sOf hp.1 hp.2 m0 (by omega)⟩
theorem lenV_is (d z n s : Int) : n / (d - 1) ≤ lenV d z n s ∧ lenV d z n s ≤ n / (d - 1) + 1 := by
  unfold lenV
  split <;> omega
theorem written {d z b n : Int} (hd : 3 ≤ d) (b0 : 0 ≤ b) (h : b < n) : b / (d - 1) < lenV d z n (sl d z (b / (d - 1)) (b % (d - 1))) := by
  have hr := row_le hd (show b ≤ n by omega)
  have ha := at_slot (z := z) hd b0
  have hl := lenV_is d z n (sl d z (b / (d - 1)) (b % (d - 1)))
  by_cases e : b / (d - 1) = n / (d - 1)
  · have h2 := (hr.2 e).2 h
    unfold lenV
    rw [← e, if_pos ⟨ha.1, by rw [ha.2]; exact h2⟩]; omega
  · omega
theorem unwritten {d z b n : Int} (hd : 3 ≤ d) (b0 : 0 ≤ b) (h : n ≤ b) : lenV d z n (sl d z (b / (d - 1)) (b % (d - 1))) ≤ b / (d - 1) := by
  have hr := row_le hd h
  have ha := at_slot (z := z) hd b0
  have hl := lenV_is d z n (sl d z (b / (d - 1)) (b % (d - 1)))
  by_cases e : n / (d - 1) = b / (d - 1)
  · have h2 := (hr.2 e).1
    unfold lenV
    rw [e, if_neg (fun x => by rw [ha.2] at x; omega)]; omega
  · omega
theorem parity_un {d z r n : Int} (h : n / (d - 1) ≤ r) : lenV d z n ((z + r) % d) ≤ r := by
  have hl := lenV_is d z n ((z + r) % d)
  by_cases e : n / (d - 1) = r
  · unfold lenV
    rw [e, if_neg (fun x => x.1 rfl)]; omega
  · omega
/-- what lies at a spot -/
theorem spot {d z s r : Int} (hd : 3 ≤ d) (s0 : 0 ≤ s) (s1 : s < d) (r0 : 0 ≤ r) (h : s ≠ (z + r) % d) : ∃ b, 0 ≤ b ∧ b / (d - 1) = r ∧ sl d z (b / (d - 1)) (b % (d - 1)) = s := by
  have hp := par_range d z r hd
  have hk := kOf_range hp.1 hp.2 s0 s1 h
  have hr := row_div (row := r) hd hk.1 hk.2
  refine ⟨r * (d - 1) + kOf d ((z + r) % d) s, ?_, hr.1, ?_⟩
  · have := Int.mul_nonneg r0 (show 0 ≤ d - 1 by omega); omega
  · rw [hr.1, hr.2]
    have hs : sl d z r (kOf d ((z + r) % d) s) = sOf d ((z + r) % d) (kOf d ((z + r) % d) s) := slotOf_eq hd hk.1 hk.2
    rw [hs]; exact sOf_kOf hp.1 hp.2 s0 s1 h
/-- What power left: each slot has between what was sure and all; and a note of the row that wasn't full. -/
structure Left (a0 a1 a2 a3 a4 z sure all m : Int) (L : List Int) (ns : List (Int × Int)) : Prop where
  g : GG a0 a1 a2 a3 a4
  z0 : 0 ≤ z
  z1 : z < a1 - 3
  s0 : 0 ≤ sure
  sa : sure ≤ all
  ac : all ≤ (a0 - 1) * a2
  hl : (L.length : Int) = a0
  m0 : -1 ≤ m
  m1 : m < a0
  lo : ∀ q, 0 ≤ q → q < a0 → lenV a0 z sure q ≤ lat L q
  hi : ∀ q, 0 ≤ q → q < a0 → lat L q ≤ lenV a0 z all q
  nt : (ns = [] ∧ (sure % (a0 - 1) = 0 ∨ (z + sure / (a0 - 1)) % a0 = m)) ∨ ns = [(sure / (a0 - 1), sure % (a0 - 1))]
theorem Left.can {z sure all m : Int} {L : List Int} {ns : List (Int × Int)} (h : Left a0 a1 a2 a3 a4 z sure all m L ns) : CAN a0 a1 a2 a3 a4 L m := by
  refine ⟨h.g, h.hl, h.m0, h.m1, fun q q0 q1 => ?_⟩
  rw [h.hl] at q1
  have h1 := lenV_bounds h.g (zone := z) (n := sure) h.s0 (by have := h.sa; have := h.ac; omega) q0 q1
  have h2 := lenV_bounds h.g (zone := z) (n := all) (by have := h.s0; have := h.sa; omega) h.ac q0 q1
  have h3 := h.lo q q0 q1
  have h4 := h.hi q q0 q1
  exact ⟨by omega, by omega⟩
theorem Left.kind {z sure all m : Int} {L : List Int} {ns : List (Int × Int)} (h : Left a0 a1 a2 a3 a4 z sure all m L ns) {b : Int} (b0 : 0 ≤ b) (b1 : b < (a0 - 1) * a2) : (srcT a0 a1 a2 a3 a4 z L m ns b).1 ≠ 0 ↔
    has L m (sl a0 z (b / (a0 - 1)) (b % (a0 - 1))) (b / (a0 - 1)) ∨ (sl a0 z (b / (a0 - 1)) (b % (a0 - 1)) = m ∧ (allB a0 z (b / (a0 - 1)) L m (b % (a0 - 1)) (-1) (a0 - 1) ∨ ∃ q : Nat, q < ns.length ∧ helps a0 z (b / (a0 - 1)) L m (b % (a0 - 1)) ns q)) := by
  unfold srcT
  rw [dc_t ⟨h.can, h.z0, h.z1, b0, b1⟩, cond_true]
  exact kind_iff _ _ _ _ _ _ _
theorem sl_neg (d z r : Int) (hd : 3 ≤ d) : sl d z r (-1) = (z + r) % d := by
  have hp := par_range d z r hd
  rw [sl_if hd (by omega) (by omega), if_pos (by omega)]; omega
theorem Left.sure_told {z sure all m : Int} {L : List Int} {ns : List (Int × Int)} (h : Left a0 a1 a2 a3 a4 z sure all m L ns) {b : Int} (b0 : 0 ≤ b) (b1 : b < sure) : (srcT a0 a1 a2 a3 a4 z L m ns b).1 ≠ 0 := by
  have hd := h.g.1
  have hbc : b < (a0 - 1) * a2 := by have := h.sa; have := h.ac; omega
  rw [h.kind b0 hbc]
  have hr := block_row (rows := a2) hd b0 hbc
  have hs := sl_lt (show 0 < a0 by omega) z (b / (a0 - 1)) (b % (a0 - 1))
  by_cases e : sl a0 z (b / (a0 - 1)) (b % (a0 - 1)) = m
  · refine .inr ⟨e, ?_⟩
    have hrow := row_le hd (show b ≤ sure by omega)
    have full : ∀ q, 0 ≤ q → q < a0 - 1 → b / (a0 - 1) * (a0 - 1) + q < sure → q ≠ b % (a0 - 1) → has L m (sl a0 z (b / (a0 - 1)) q) (b / (a0 - 1)) := by
      intro q q0 q1 hq hne
      have hro := row_of (r := b / (a0 - 1)) hd q0 q1
      have hw := written (z := z) (b := b / (a0 - 1) * (a0 - 1) + q) hd (by have := Int.mul_nonneg hr.1 (show 0 ≤ a0 - 1 by omega); omega) hq
      rw [hro.1, hro.2] at hw
      have hsq := sl_lt (show 0 < a0 by omega) z (b / (a0 - 1)) q
      refine ⟨fun x => hne (sl_inj hd (by omega) (by omega) (by omega) (by omega) (by rw [x, e])), ?_⟩
      have := h.lo _ hsq.1 hsq.2
      omega
    have hmul : b / (a0 - 1) * (a0 - 1) + b % (a0 - 1) = b := by
      have := Int.emod_add_mul_ediv b (a0 - 1)
      rw [Int.mul_comm] at this; omega
    have hms : sure / (a0 - 1) * (a0 - 1) + sure % (a0 - 1) = sure := by
      have := Int.emod_add_mul_ediv sure (a0 - 1)
      rw [Int.mul_comm] at this; omega
    have hsm0 := Int.emod_nonneg sure (show a0 - 1 ≠ 0 by omega)
    have hsm1 := Int.emod_lt_of_pos sure (show 0 < a0 - 1 by omega)
    by_cases er : b / (a0 - 1) = sure / (a0 - 1)
    · have hp := (hrow.2 er).2 b1
      rcases h.nt with ⟨_, hx | hx⟩ | hx
      · omega
      · refine absurd e ?_
        rw [← hx, ← er]
        exact (at_slot hd b0).1
      · subst hx
        refine .inr ⟨0, by simp, by unfold noteR; exact er.symm, by unfold noteW; exact hp, by unfold noteW; show sure % (a0 - 1) ≤ a0 - 1; omega, fun q q0 q1 hq => ?_⟩
        have q1 : q < sure % (a0 - 1) := q1
        refine full q q0 (by omega) ?_ hq
        rw [er]; omega
    · have hlt : b / (a0 - 1) + 1 ≤ sure / (a0 - 1) := by have := hrow.1; omega
      refine .inl (fun q q0 q1 hq => ?_)
      by_cases en : q = -1
      · rw [en, sl_neg _ _ _ hd]
        have hp := par_range a0 z (b / (a0 - 1)) hd
        refine ⟨fun x => (at_slot (z := z) hd b0).1 (by rw [e, x]), ?_⟩
        have h1 := h.lo _ hp.1 hp.2
        have h2 := lenV_is a0 z sure ((z + b / (a0 - 1)) % a0)
        omega
      · refine full q (by omega) (by omega) ?_ hq
        have := Int.mul_le_mul_of_nonneg_right hlt (show 0 ≤ a0 - 1 by omega)
        rw [Int.add_mul, Int.one_mul] at this
        omega
  · refine .inl ⟨e, ?_⟩
    have h1 := h.lo _ hs.1 hs.2
    have h2 := written (z := z) hd b0 b1
    omega
theorem Left.all_not {z sure all m : Int} {L : List Int} {ns : List (Int × Int)} (h : Left a0 a1 a2 a3 a4 z sure all m L ns) (hc : all < (a0 - 1) * a2) : ¬ (srcT a0 a1 a2 a3 a4 z L m ns all).1 ≠ 0 := by
  have hd := h.g.1
  have a00 : 0 ≤ all := by have := h.s0; have := h.sa; omega
  rw [h.kind a00 hc]
  have hs := sl_lt (show 0 < a0 by omega) z (all / (a0 - 1)) (all % (a0 - 1))
  have hr := block_row (rows := a2) hd a00 hc
  have hrow := row_le hd h.sa
  rintro (x | ⟨e, x | ⟨q, hq, x⟩⟩)
  · have h1 := h.hi _ hs.1 hs.2
    have h2 := unwritten (z := z) hd a00 (Int.le_refl all)
    have := x.2
    omega
  · have h1 := x (-1) (Int.le_refl _) (by omega) (by omega)
    rw [sl_neg _ _ _ hd] at h1
    have hp := par_range a0 z (all / (a0 - 1)) hd
    have h2 := h.hi _ hp.1 hp.2
    have h3 := parity_un (d := a0) (z := z) (Int.le_refl (all / (a0 - 1)))
    have := h1.2
    omega
  · rcases h.nt with ⟨hx, _⟩ | hx
    · subst hx; simp at hq
    · subst hx
      simp at hq
      subst hq
      have h1 : sure / (a0 - 1) = all / (a0 - 1) := x.1
      have h2 : all % (a0 - 1) < sure % (a0 - 1) := x.2.1
      have := (hrow.2 h1).1
      omega
theorem Left.told {z sure all m n : Int} {L : List Int} {ns : List (Int × Int)} (h : Left a0 a1 a2 a3 a4 z sure all m L ns) (hn : StopR ((a0 - 1) * a2) (fun b => (srcT a0 a1 a2 a3 a4 z L m ns b).1 ≠ 0) n) : sure ≤ n ∧ n ≤ all := by
  constructor
  · by_cases e : sure ≤ n
    · exact e
    · exact absurd (h.sure_told hn.1 (by omega)) (hn.2.2.2 (by have := h.sa; have := h.ac; omega))
  · by_cases e : n ≤ all
    · exact e
    · exact absurd (hn.2.2.1 all (by have := h.s0; have := h.sa; omega) (by omega)) (h.all_not (by have := hn.2.1; omega))
/-- With nothing too much, what is wanting is one parity. -/
theorem Left.less {z sure all m n : Int} {L : List Int} {ns : List (Int × Int)} (h : Left a0 a1 a2 a3 a4 z sure all m L ns) (hn : StopR ((a0 - 1) * a2) (fun b => (srcT a0 a1 a2 a3 a4 z L m ns b).1 ≠ 0) n)
    {s : Int} (s0 : 0 ≤ s) (s1 : s < a0) (sm : s ≠ m) (hlt : lat L s < lenV a0 z n s) : 1 ≤ n / (a0 - 1) ∧ s = (z + (n / (a0 - 1) - 1)) % a0 ∧ lat L s = lenV a0 z n s - 1 ∧ lat L s = n / (a0 - 1) - 1 := by
  have hd := h.g.1
  have hL0 : 0 ≤ lat L s := by
    have := (h.can.2.2.2.2 s s0 (by rw [h.hl]; exact s1)).1
    exact this
  have noblock : ∀ r, lat L s ≤ r → r < lenV a0 z n s → s = (z + r) % a0 := by
    intro r r0 r1
    by_cases e : s = (z + r) % a0
    · exact e
    · exfalso
      obtain ⟨b, b0, hb1, hb2⟩ := spot (z := z) hd s0 s1 (show 0 ≤ r by omega) e
      have hbn : b < n := by
        by_cases c : b < n
        · exact c
        · have := unwritten (z := z) hd b0 (show n ≤ b by omega)
          rw [hb2, hb1] at this
          omega
      have hk := (h.kind b0 (by have := hn.2.1; omega)).1 (hn.2.2.1 b b0 hbn)
      rw [hb2, hb1] at hk
      rcases hk with x | ⟨x, _⟩
      · have := x.2; omega
      · exact sm x
  have e0 := noblock (lat L s) (Int.le_refl _) hlt
  have hl := lenV_is a0 z n s
  have hW : lenV a0 z n s = lat L s + 1 := by
    by_cases c : lenV a0 z n s ≤ lat L s + 1
    · omega
    · exfalso
      have e1 := noblock (lat L s + 1) (by omega) (by omega)
      have e1 := e0.symm.trans e1
      have hp := par_range a0 z (lat L s) hd
      have h2 : (z + (lat L s + 1)) % a0 = ((z + lat L s) % a0 + 1) % a0 := by rw [← Int.add_assoc, Int.add_emod (z + lat L s) 1, Int.emod_eq_of_lt (show (0 : Int) ≤ 1 by decide) (by omega)]
      rw [h2] at e1
      by_cases c2 : (z + lat L s) % a0 + 1 < a0
      · rw [Int.emod_eq_of_lt (by omega) c2] at e1; omega
      · rw [show (z + lat L s) % a0 + 1 = a0 by omega, Int.emod_self] at e1; omega
  have hfull : lat L s < n / (a0 - 1) := by
    by_cases c : lat L s < n / (a0 - 1)
    · exact c
    · have := parity_un (d := a0) (z := z) (n := n) (r := lat L s) (by omega)
      rw [← e0] at this
      omega
  have hrow : lat L s = n / (a0 - 1) - 1 := by omega
  exact ⟨by omega, by rw [← hrow]; exact e0, by omega, hrow⟩
end
theorem foldI_or (P : Int → Prop) : ∀ n i a, foldI (fun i a => a || dc (P i)) n i a = (a || dc (∃ q, i ≤ q ∧ q < i + (n : Nat) ∧ P q)) := by
  intro n
  induction n with
  | zero => intro i a; rw [dc_f (fun ⟨q, h1, h2, _⟩ => absurd h2 (by omega)), Bool.or_false]; rfl
  | succ n ih =>
    intro i a
    show foldI _ n (i + 1) (a || dc (P i)) = _
    rw [ih, Bool.or_assoc]
    congr 1
    by_cases h : P i
    · rw [dc_t h, dc_t (show ∃ q, i ≤ q ∧ q < i + ((n + 1 : Nat) : Int) ∧ P q from ⟨i, by omega, by omega, h⟩)]; rfl
    · rw [dc_f h, Bool.false_or]
      refine dc_congr ⟨fun ⟨q, h1, h2, h3⟩ => ⟨q, by omega, by omega, h3⟩, fun ⟨q, h1, h2, h3⟩ => ⟨q, ?_, by omega, h3⟩⟩
      by_cases e : q = i
      · rw [e] at h3; exact absurd h3 h
      · omega
theorem l16_val {R : Type} (e0 : Bool → Option R) (e1 : Option R) (k : Nat) (hk : 100 ≤ k) {d m : Int} (hd : d ≤ 16) {L W : List Int} (hl : (L.length : Int) = d) (hw : (W.length : Int) = d) :
    corbellaw15_MendEnds_l16 e0 e1 k m d L W k 0 = bif dc (∀ s, 0 ≤ s → s < d → (s ≠ m → lat L s = lat W s)) then e1 else e0 false := by
  refine loopAll (corbellaw15_MendEnds_l16 e0 e1 k m d L W) 0 d (fun s => s ≠ m → lat L s = lat W s) e1 (e0 false)
    (fun j i i0 i1 hp => ?_) (fun j i i0 i1 hp => ?_) (fun j i i0 i1 => ?_) k 0 (Int.le_refl 0) (by omega)
  · rw [corbellaw15_MendEnds_l16]; unfold corbellaw15_MendEnds_l16s corbellaw15_MendEnds_j17 corbellaw15_MendEnds_k8 corbellaw15_MendEnds_j18
    rw [decide_eq_true i1, cond_true, w64 (n := i + 1) (by omega) (by omega)]
    by_cases e : i = m
    · rw [decide_eq_true e]; rfl
    · rw [decide_eq_false e, lenI_eq, lenI_eq, decide_eq_true i0, decide_eq_true (show i < (L.length : Int) by omega), decide_eq_true (show i < (W.length : Int) by omega), lat_some (L := L) i0 (by omega), lat_some (L := W) i0 (by omega)]
      simp only [optb, Bool.and_self, Bool.not_false, cond_true]
      rw [decide_eq_true (hp e)]; rfl
  · rw [corbellaw15_MendEnds_l16]; unfold corbellaw15_MendEnds_l16s corbellaw15_MendEnds_j17 corbellaw15_MendEnds_k7
    rw [decide_eq_true i1, cond_true]
    by_cases e : i = m
    · exact absurd (fun x => absurd e x) hp
    · rw [decide_eq_false e, lenI_eq, lenI_eq, decide_eq_true i0, decide_eq_true (show i < (L.length : Int) by omega), decide_eq_true (show i < (W.length : Int) by omega), lat_some (L := L) i0 (by omega), lat_some (L := W) i0 (by omega)]
      simp only [optb, Bool.and_self, Bool.not_false, cond_true]
      rw [decide_eq_false (fun x => hp (fun _ => x))]; rfl
  · rw [corbellaw15_MendEnds_l16]; unfold corbellaw15_MendEnds_l16s
    rw [decide_eq_false (by omega), cond_false]
theorem l19_val {R : Type} (e0 : Bool → Option R) (k : Nat) (hk : 100 ≤ k) {d m : Int} (hd : d ≤ 16) {L W : List Int} (hl : (L.length : Int) = d) (hw : (W.length : Int) = d) (h : ∃ s, 0 ≤ s ∧ s < d ∧ s ≠ m ∧ lat W s < lat L s) :
    corbellaw15_MendEnds_l19 e0 k m d L W k false 0 = e0 true := by
  rw [loopFold (corbellaw15_MendEnds_l19 e0 k m d L W) 0 d (fun s a => a || dc (s ≠ m ∧ lat W s < lat L s)) e0
    (fun j a i i0 i1 => by
      rw [corbellaw15_MendEnds_l19]; unfold corbellaw15_MendEnds_l19s corbellaw15_MendEnds_j20 corbellaw15_MendEnds_k11
      rw [decide_eq_true i1, cond_true, w64 (n := i + 1) (by omega) (by omega)]
      cases a with
      | true => rfl
      | false =>
        rw [cond_false, Bool.false_or]
        by_cases e : i = m
        · rw [decide_eq_true e, dc_f (fun x : i ≠ m ∧ _ => x.1 e)]; rfl
        · rw [decide_eq_false e, lenI_eq, lenI_eq, decide_eq_true i0, decide_eq_true (show i < (L.length : Int) by omega), decide_eq_true (show i < (W.length : Int) by omega), lat_some (L := L) i0 (by omega), lat_some (L := W) i0 (by omega)]
          simp only [optb, Bool.and_self, Bool.not_false, cond_true]
          rw [dc_dec]
          congr 1
          exact dc_congr ⟨fun x => ⟨e, x⟩, fun x => x.2⟩)
    (fun j a i i0 i1 => by
      rw [corbellaw15_MendEnds_l19]; unfold corbellaw15_MendEnds_l19s
      rw [decide_eq_false (by omega), cond_false]) _ k false 0 (Int.le_refl 0) rfl (by omega), foldI_or, Bool.false_or, dc_t]
  obtain ⟨s, h1, h2, h3⟩ := h
  exact ⟨s, h1, by omega, h3⟩
section
variable {a0 a1 a2 a3 a4 : Int}
theorem ends_val (k : Nat) (hk : 1000 ≤ k) {z sure all m n : Int} {L : List Int} {ns : List (Int × Int)} (h : Left a0 a1 a2 a3 a4 z sure all m L ns) (hn : StopR ((a0 - 1) * a2) (fun b => (srcT a0 a1 a2 a3 a4 z L m ns b).1 ≠ 0) n) :
    corbellaw15_MendEnds_j9 (fun v => some v) k z sure all m n a0 a0 a1 a2 a3 a4 L = some true := by
  have g := h.g
  have g' := g
  obtain ⟨h1, h2, h3, h4, h5, h6, _⟩ := g'
  obtain ⟨t0, t1⟩ := h.told hn
  have hl := h.hl
  have hz : InZN a0 a1 a2 z n := ⟨h.z0, h.z1, hn.1, hn.2.1⟩
  have hok : DecOK a0 a1 a2 a3 a4 z n L m := ⟨⟨g, hz⟩, hl, h.m0, h.m1, h.can.2.2.2.2⟩
  have hWl := lensL_length (d := a0) (by omega) z n
  have hW : ∀ q, 0 ≤ q → q < a0 → lat (lensL a0 z n) q = lenV a0 z n q := fun q q0 q1 => lensL_at q0 q1
  unfold corbellaw15_MendEnds_j9
  rw [decide_eq_true (show ([] : List Int).length + L.length ≤ 1099511627776 by rw [List.length_nil]; omega), cond_true, List.nil_append, dec_in k (by omega) false L m hok]
  simp only [optb]
  rw [decide_eq_false (show ¬ n < sure by omega), decide_eq_false (show ¬ all < n by omega)]
  simp only [decide_true, Bool.not_true, cond_false, corbellaw15_MendEnds_k4]
  have hmore := moreV_iff (lensL a0 z n) L m L.length
  have hless := moreV_iff L (lensL a0 z n) m L.length
  have hone := fun s s0 => moreV_one (W := L) (L := lensL a0 z n) (m := m) (s := s) s0 L.length
  generalize moreV (lensL a0 z n) L m L.length = more at hmore ⊢
  generalize moreV L (lensL a0 z n) m L.length = less at hless hone ⊢
  have hnil : ∀ {l : List Int}, (∀ x, ¬ x ∈ l) → l = [] := fun hx => List.eq_nil_iff_forall_not_mem.2 hx
  -- the end of the law, for what is neither kept nor mended
  have hend : ∀ (kind a b : Int), kind ≠ 0 → kind ≠ 1 → (∃ s, 0 ≤ s ∧ s < a0 ∧ s ≠ m ∧ lat (lensL a0 z n) s < lat L s) →
      corbellaw15_MendEnds_j11 (fun v => some v) k z m n a0 a0 a1 a2 a3 a4 L kind a b = some true := by
    intro kind a b k0 k1 hs
    unfold corbellaw15_MendEnds_j11
    rw [lengths_in k (by omega) g hz]
    simp only [optb, corbellaw15_MendEnds_j12, corbellaw15_MendEnds_j14, corbellaw15_MendEnds_j15, corbellaw15_MendEnds_k10]
    rw [decide_eq_false k0, decide_eq_false k1]
    simp only [cond_false]
    exact l19_val _ k (by omega) h2 hl hWl hs
  have hbad : more = [] → ∀ s, s ∈ less → 1 ≤ n / (a0 - 1) ∧ s = (z + (n / (a0 - 1) - 1)) % a0 ∧ lat L s = lenV a0 z n s - 1 ∧ lat L s = n / (a0 - 1) - 1 := fun _ s hs => by
    have hx := (hless s).1 hs
    have hx1 : s < a0 := by omega
    exact h.less hn hx.1 hx1 hx.2.2.1 (by rw [← hW s hx.1 hx1]; exact hx.2.2.2)
  have hmore' : more ≠ [] → ∃ s, 0 ≤ s ∧ s < a0 ∧ s ≠ m ∧ lat (lensL a0 z n) s < lat L s := fun hne => by
    obtain ⟨s, hs⟩ := List.exists_mem_of_ne_nil more hne
    have hx := (hmore s).1 hs
    exact ⟨s, hx.1, by omega, hx.2.2⟩
  by_cases c0 : more = [] ∧ less = []
  · have hv : decV a0 z n (lensL a0 z n) L more less = (0, 0, 0) := by unfold decV; rw [dc_t c0]; rfl
    have heq : ∀ s, 0 ≤ s → s < a0 → (s ≠ m → lat L s = lat (lensL a0 z n) s) := by
      intro s s0 s1 sm
      have x1 : ¬ lat (lensL a0 z n) s < lat L s := fun x => by
        have := (hmore s).2 ⟨s0, by omega, sm, x⟩
        rw [c0.1] at this; exact absurd this List.not_mem_nil
      have x2 : ¬ lat L s < lat (lensL a0 z n) s := fun x => by
        have := (hless s).2 ⟨s0, by omega, sm, x⟩
        rw [c0.2] at this; exact absurd this List.not_mem_nil
      omega
    have hfin : corbellaw15_MendEnds_j11 (fun v => some v) k z m n a0 a0 a1 a2 a3 a4 L 0 0 0 = some true := by
      unfold corbellaw15_MendEnds_j11
      rw [lengths_in k (by omega) g hz]
      simp only [optb, corbellaw15_MendEnds_j12, corbellaw15_MendEnds_j14, corbellaw15_MendEnds_j15]
      rw [decide_eq_false (show ¬ (0 : Int) = 1 by decide)]
      simp only [decide_true, cond_true, cond_false]
      rw [l16_val _ _ k (by omega) h2 hl hWl, dc_t heq]; rfl
    rw [hv]
    simp only [decide_true, Bool.not_true, cond_false]
    rw [decide_eq_false (show ¬ (0 : Int) = 3 by decide)]
    simp only [corbellaw15_MendEnds_j10, cond_false]
    cases decide (all = sure) <;> exact hfin
  · have hne : ¬ all = sure := by
      intro e
      refine c0 ⟨hnil fun x hx => ?_, hnil fun x hx => ?_⟩
      · have hy := (hmore x).1 hx
        have hy1 : x < a0 := by omega
        have := h.hi x hy.1 hy1
        have q := hy.2.2.2
        rw [hW x hy.1 hy1, show n = all by omega] at q
        omega
      · have hy := (hless x).1 hx
        have hy1 : x < a0 := by omega
        have := h.lo x hy.1 hy1
        have q := hy.2.2.2
        rw [hW x hy.1 hy1, show n = sure by omega] at q
        omega
    rw [decide_eq_false hne]
    simp only [cond_false]
    by_cases c1 : n = 0
    · have hv : decV a0 z n (lensL a0 z n) L more less = (3, 0, 0) := by unfold decV; rw [dc_f c0, decide_eq_true c1]; rfl
      rw [hv]
      simp only [decide_true, cond_true]
      rw [decide_eq_true c1]
      simp only [Bool.not_true, corbellaw15_MendEnds_j10, cond_false]
      refine hend 3 0 0 (by decide) (by decide) (hmore' fun hm => c0 ⟨hm, hnil fun x hx => ?_⟩)
      have := (hbad hm x hx).1
      rw [c1] at this
      simp at this
    · by_cases c2 : OneLess a0 z n (lensL a0 z n) L more less
      · have hv : decV a0 z n (lensL a0 z n) L more less = (1, less.headD 0, n / (a0 - 1) - 1) := by unfold decV; rw [dc_f c0, decide_eq_false c1, dc_t c2]; rfl
        obtain ⟨hm, hr0, s, rfl, hsp, hsl⟩ := c2
        have hx := (hless s).1 (List.mem_singleton.2 rfl)
        have hx1 : s < a0 := by omega
        have hb := hbad hm s (List.mem_singleton.2 rfl)
        have hnb := lenV_bounds g (zone := z) hn.1 hn.2.1 hx.1 hx1
        rw [hv]
        simp only [List.headD_cons]
        rw [decide_eq_false (show ¬ (1 : Int) = 3 by decide)]
        simp only [corbellaw15_MendEnds_j10, cond_false]
        unfold corbellaw15_MendEnds_j11
        rw [lengths_in k (by omega) g hz]
        simp only [optb, corbellaw15_MendEnds_j12, corbellaw15_MendEnds_j13, corbellaw15_MendEnds_k6, decide_true, cond_true, lenI_eq]
        rw [decide_eq_true hx.1, decide_eq_true (show s < (L.length : Int) by omega), lat_some hx.1 (by omega)]
        simp only [Bool.and_self, cond_true]
        rw [decide_eq_true hb.2.2.2, decide_eq_false hx.2.2.1, par_yes k g ⟨h.z0, h.z1, hr0, by omega⟩]
        simp only [Bool.not_true, cond_false]
        rw [decide_eq_true hb.2.1]
        simp only [Bool.not_true, cond_false, corbellaw15_MendEnds_j14, corbellaw15_MendEnds_j15]
        rw [decide_eq_false (show ¬ (1 : Int) = 0 by decide)]
        simp only [decide_true, cond_true, cond_false]
        rw [w64 (n := lat L s + 1) (by omega) (by omega), l16_val _ _ k (by omega) h2 (L := L.set s.toNat (lat L s + 1)) (by rw [List.length_set]; exact hl) hWl, dc_t]
        · rfl
        · intro q q0 q1 qm
          rw [lat_set hx.1 (by omega) _ q0]
          by_cases e : q = s
          · rw [if_pos e, e, hsl]; omega
          · rw [if_neg e]
            have x1 : ¬ lat (lensL a0 z n) q < lat L q := fun x => by
              have := (hmore q).2 ⟨q0, by omega, qm, x⟩
              rw [hm] at this; exact absurd this List.not_mem_nil
            have x2 : ¬ lat L q < lat (lensL a0 z n) q := fun x => by
              have := (hless q).2 ⟨q0, by omega, qm, x⟩
              exact e (List.mem_singleton.1 this)
            omega
      · have hv : decV a0 z n (lensL a0 z n) L more less = (2, 0, 0) := by unfold decV; rw [dc_f c0, decide_eq_false c1, dc_f c2]; rfl
        rw [hv]
        simp only
        rw [decide_eq_false (show ¬ (2 : Int) = 3 by decide)]
        simp only [corbellaw15_MendEnds_j10, cond_false]
        refine hend 2 0 0 (by decide) (by decide) (hmore' fun hm => ?_)
        obtain ⟨s, hs⟩ := List.exists_mem_of_ne_nil less (fun x => c0 ⟨hm, x⟩)
        have hx := (hless s).1 hs
        have hb := hbad hm s hs
        refine c2 ⟨hm, by omega, s, ?_, hb.2.1, by rw [hW s hx.1 (by omega)]; exact hb.2.2.1⟩
        rw [hone s hx.1 (fun q hq => ⟨fun y => ?_, fun y => by rw [y]; exact hx.2.2⟩), if_pos hx.2.1]
        have := hbad hm q ((hless q).2 ⟨by omega, by omega, y⟩)
        rw [this.2.1]; exact hb.2.1.symm
theorem j9_same : @corbellaw15_MendEnds_j9b Bool = @corbellaw15_MendEnds_j9 Bool := by kernel_rfl
end

theorem keep_loop {R : Type} (e0 : List Int → Option R) (k : Nat) (ks : List Int) {d : Int} {A B : List Int} (d1 : d ≤ 1000) (ha : (A.length : Int) = d) (hb : (B.length : Int) = d) (hab : ∀ q, 0 ≤ q → q < d → 0 ≤ lat A q ∧ lat A q ≤ lat B q ∧ lat B q ≤ 1000) :
    ∀ (u j : Nat) (i : Int) (out : List Int), 0 ≤ i → i ≤ d → (d - i).toNat = u → u < j → (out.length : Int) = i → (∀ q, 0 ≤ q → q < i → lat A q ≤ lat out q ∧ lat out q ≤ lat B q) →
    ∃ L, corbellaw15_MendEnds_l3 e0 k ks d A B j i out = e0 L ∧ (L.length : Int) = d ∧ ∀ q, 0 ≤ q → q < d → lat A q ≤ lat L q ∧ lat L q ≤ lat B q := by
  intro u
  induction u with
  | zero =>
    intro j i out i0 i1 hu hj hl hq
    obtain ⟨j, rfl⟩ : ∃ u, j = u + 1 := ⟨j - 1, by omega⟩
    refine ⟨out, ?_, by omega, fun q q0 q1 => hq q q0 (by omega)⟩
    rw [corbellaw15_MendEnds_l3]; unfold corbellaw15_MendEnds_l3s
    rw [decide_eq_false (by omega), cond_false]
  | succ u ih =>
    intro j i out i0 i1 hu hj hl hq
    obtain ⟨j, rfl⟩ : ∃ u, j = u + 1 := ⟨j - 1, by omega⟩
    have hA := hab i i0 (by omega)
    have hgo : ∀ x : Int, 0 ≤ x → x < 1024 → ∃ L, corbellaw15_MendEnds_j4 (corbellaw15_MendEnds_k0 (corbellaw15_MendEnds_l3 e0 k ks d A B j) e0 k i) k i x A B out = e0 L ∧ (L.length : Int) = d ∧ ∀ q, 0 ≤ q → q < d → lat A q ≤ lat L q ∧ lat L q ≤ lat B q := by
      intro x x0 x1
      unfold corbellaw15_MendEnds_j4 corbellaw15_MendEnds_k0 corbellaw15_MendEnds_j5
      rw [lenI_eq, lenI_eq, decide_eq_true i0, decide_eq_true (show i < (A.length : Int) by omega), decide_eq_true (show i < (B.length : Int) by omega), lat_some (L := A) i0 (by omega), lat_some (L := B) i0 (by omega)]
      simp only [optb, Bool.and_self, cond_true, List.length_singleton]
      rw [w64 (n := lat B i - lat A i) (by omega) (by omega), w64 (n := lat B i - lat A i + 1) (by omega) (by omega), decide_eq_false (show ¬ lat B i - lat A i + 1 = 0 by omega), decide_eq_true (show out.length + 1 ≤ 1099511627776 by omega), tmod_pos x0]
      have r0 := Int.emod_nonneg x (show lat B i - lat A i + 1 ≠ 0 by omega)
      have r1 := Int.emod_lt_of_pos x (show 0 < lat B i - lat A i + 1 by omega)
      simp only [cond_true, cond_false]
      rw [w64 (n := lat A i + x % (lat B i - lat A i + 1)) (by omega) (by omega), w64 (n := i + 1) (by omega) (by omega)]
      have hv : lat A i ≤ lat A i + x % (lat B i - lat A i + 1) ∧ lat A i + x % (lat B i - lat A i + 1) ≤ lat B i := by omega
      generalize lat A i + x % (lat B i - lat A i + 1) = v at hv ⊢
      refine ih j (i + 1) (out ++ [v]) (by omega) (by omega) (by omega) (by omega) (by rw [List.length_append, List.length_singleton]; omega) (fun q q0 q1 => ?_)
      rw [lat_app out v q0]
      by_cases h : q < out.length
      · rw [if_pos h]; exact hq q q0 (by omega)
      · rw [if_neg h, if_pos (by omega)]
        have e : q = i := by omega
        rw [e]; omega
    rw [corbellaw15_MendEnds_l3]; unfold corbellaw15_MendEnds_l3s
    rw [decide_eq_true (show i < d by omega), cond_true, lenI_eq]
    by_cases h : (0 : Int) < ks.length
    · have t0 : 0 ≤ Int.tmod i ks.length := by rw [tmod_pos i0]; exact Int.emod_nonneg _ (by omega)
      have t1 : Int.tmod i ks.length < ks.length := by rw [tmod_pos i0]; exact Int.emod_lt_of_pos _ h
      rw [decide_eq_true h, cond_true, decide_eq_false (show ¬ (ks.length : Int) = 0 by omega), cond_false, decide_eq_true t0, cond_true, lat_some t0 t1]
      simp only [optb]
      have hm := and_mask (lat ks (Int.tmod i ks.length)) 10 (by omega)
      rw [show ((2 : Int) ^ 10 - 1) = 1023 by decide, show ((2 : Int) ^ 10) = 1024 by decide] at hm
      rw [hm]
      exact hgo _ (Int.emod_nonneg _ (by decide)) (Int.emod_lt_of_pos _ (by decide))
    · rw [decide_eq_false h, cond_false]
      exact hgo 0 (by decide) (by decide)
theorem speaks15 (d : Nat) : corbellaw15_speaks (d + 300) = some true := by kernel_rfl
theorem lenV_mono {d z a b s : Int} (hd : 3 ≤ d) (h : a ≤ b) : lenV d z a s ≤ lenV d z b s := by
  have hr := row_le hd h
  by_cases e : a / (d - 1) = b / (d - 1)
  · have h2 := (hr.2 e).1
    unfold lenV
    rw [e]
    by_cases c : s ≠ (z + b / (d - 1)) % d ∧ kOf d ((z + b / (d - 1)) % d) s < a % (d - 1)
    · rw [if_pos c, if_pos ⟨c.1, by omega⟩]; omega
    · rw [if_neg c]
      split <;> omega
  · have := lenV_is d z a s
    have := lenV_is d z b s
    omega
theorem ends_core (a0 a1 a2 a3 a4 z sure all m : Int) (ks : List Int) (k : Nat) (hk : 9700 + 300 = k) (g : GG a0 a1 a2 a3 a4) (bz : 0 ≤ z ∧ z < a1 - 3) (bs : 0 ≤ sure ∧ sure < (a0 - 1) * a2 + 1) (sa : sure ≤ all) (ac : all ≤ (a0 - 1) * a2) (bm : -1 ≤ m ∧ m < a0) :
    corbellaw15_MendEnds_l3 (fun v => corbellaw15_MendEnds_j6 (fun hN h vN w => corbellaw15_MendEnds_j8 (fun x => some x) k z sure all m a0 a0 a1 a2 a3 a4 m true v vN w) (corbellaw15_MendEnds_j8b (fun x => some x) k z sure all m a0 a0 a1 a2 a3 a4 m true v) k z sure m (Int.tmod sure (a0 - 1)) a0 a0 a1 a2 a3 a4) k ks a0 (lensL a0 z sure) (lensL a0 z all) k 0 [] = some true := by
  have g' := g
  obtain ⟨h1, h2, h3, h4, h5, h6, _⟩ := g'
  have hc := cap_bound g
  have hA := lensL_length (d := a0) (by omega) z sure
  have hB := lensL_length (d := a0) (by omega) z all
  have hAa : ∀ q, 0 ≤ q → q < a0 → lat (lensL a0 z sure) q = lenV a0 z sure q := fun q q0 q1 => lensL_at q0 q1
  have hBa : ∀ q, 0 ≤ q → q < a0 → lat (lensL a0 z all) q = lenV a0 z all q := fun q q0 q1 => lensL_at q0 q1
  have hP : 0 < a0 - 1 := by omega
  generalize he0 : (fun v : List Int => corbellaw15_MendEnds_j6 (fun hN h vN w => corbellaw15_MendEnds_j8 (fun x => some x) k z sure all m a0 a0 a1 a2 a3 a4 m true v vN w) (corbellaw15_MendEnds_j8b (fun x => some x) k z sure all m a0 a0 a1 a2 a3 a4 m true v) k z sure m (Int.tmod sure (a0 - 1)) a0 a0 a1 a2 a3 a4) = e0
  obtain ⟨L, e, hl, hb⟩ := keep_loop e0 k ks (d := a0) (A := lensL a0 z sure) (B := lensL a0 z all) (by omega) hA hB (fun q q0 q1 => by
    rw [hAa q q0 q1, hBa q q0 q1]
    have u1 := lenV_bounds g (zone := z) (n := sure) bs.1 (by omega) q0 q1
    have u2 := lenV_bounds g (zone := z) (n := all) (by omega) (by omega) q0 q1
    have u3 := lenV_mono (z := z) (s := q) h1 (show sure ≤ all by omega)
    omega) _ k 0 [] (Int.le_refl 0) (by omega) rfl (by omega) rfl (fun q q0 q1 => absurd q1 (by omega))
  refine e.trans ?_
  · rw [← he0]
    have hlo : ∀ q, 0 ≤ q → q < a0 → lenV a0 z sure q ≤ lat L q := fun q q0 q1 => by rw [← hAa q q0 q1]; exact (hb q q0 q1).1
    have hhi : ∀ q, 0 ≤ q → q < a0 → lat L q ≤ lenV a0 z all q := fun q q0 q1 => by rw [← hBa q q0 q1]; exact (hb q q0 q1).2
    have hcap : capV a0 a1 a2 a3 a4 = (a0 - 1) * a2 := by unfold capV; rw [dc_t g]; rfl
    have withns : ∀ ns : List (Int × Int), ns.length ≤ 1 → ((ns = [] ∧ (sure % (a0 - 1) = 0 ∨ (z + sure / (a0 - 1)) % a0 = m)) ∨ ns = [(sure / (a0 - 1), sure % (a0 - 1))]) → ∀ b : Bool, ∃ n, tail_Length k a0 a1 a2 a3 a4 z true L m b ns = some n ∧ corbellaw15_MendEnds_j9 (fun v => some v) k z sure all m n a0 a0 a1 a2 a3 a4 L = some true := by
      intro ns hns hnt b
      have left : Left a0 a1 a2 a3 a4 z sure all m L ns := ⟨g, bz.1, bz.2, bs.1, by omega, by omega, hl, by omega, by omega, hlo, hhi, hnt⟩
      obtain ⟨n, e1, e2⟩ := length_val (a0 := a0) (a1 := a1) (a2 := a2) (a3 := a3) (a4 := a4) k true L m b ns z (by omega) (by omega)
      rw [hcap] at e2
      exact ⟨n, e1, ends_val k (by omega) left e2⟩
    have hm0 := Int.emod_nonneg sure (show a0 - 1 ≠ 0 by omega)
    have hm1 := Int.emod_lt_of_pos sure hP
    have hr := lenV_bounds g (zone := z) (n := sure) bs.1 (by omega) (Int.le_refl 0) (show 0 < a0 by omega)
    have bare : (sure % (a0 - 1) = 0 ∨ (z + sure / (a0 - 1)) % a0 = m) → corbellaw15_MendEnds_j8b (fun x => some x) k z sure all m a0 a0 a1 a2 a3 a4 m true L = some true := by
      intro hx
      obtain ⟨n, e1, e2⟩ := withns [] (by simp) (.inl ⟨rfl, hx⟩) true
      unfold corbellaw15_MendEnds_j8b
      rw [e1]
      simp only [optb]
      rw [j9_same]; exact e2
    simp only [corbellaw15_MendEnds_j6, corbellaw15_MendEnds_j7, corbellaw15_MendEnds_k1, corbellaw15_MendEnds_k2]
    rw [tmod_pos bs.1, w64 (n := a0 - 1) (by omega) (by omega), decide_eq_false (show ¬ a0 - 1 = 0 by omega), tdiv_pos bs.1, w64 (n := sure / (a0 - 1)) (by omega) (by omega)]
    simp only [cond_false]
    by_cases c1 : 0 < sure % (a0 - 1)
    · have hrow : sure / (a0 - 1) < a2 := Int.ediv_lt_of_lt_mul hP (by
        rw [Int.mul_comm]
        by_cases q : sure < (a0 - 1) * a2
        · exact q
        · exfalso
          rw [show sure = (a0 - 1) * a2 by omega, Int.mul_emod_right] at c1
          omega)
      rw [decide_eq_true c1, cond_true, par_yes k g ⟨bz.1, bz.2, hr.1, hrow⟩]
      simp only [optb]
      by_cases c2 : (z + sure / (a0 - 1)) % a0 = m
      · rw [decide_eq_true c2]; exact bare (.inr c2)
      · rw [decide_eq_false c2]
        simp only [Bool.not_false, cond_true]
        obtain ⟨n, e1, e2⟩ := withns [(sure / (a0 - 1), sure % (a0 - 1))] (by simp) (.inr rfl) true
        rw [decide_eq_true (show ([(sure / (a0 - 1), sure % (a0 - 1))] : List (Int × Int)).length ≤ 1099511627776 by simp), cond_true]
        unfold corbellaw15_MendEnds_j8
        rw [e1]
        exact e2
    · rw [decide_eq_false c1]
      simp only [cond_false]
      exact bare (.inl (by omega))
theorem optb_some {α β : Type} (a : α) (f : α → Option β) : optb (some a) f = f a := rfl
theorem ends_main (a0 a1 a2 a3 a4 ta tb tc td : Int) (la : Bool) (ks : List Int) (wa : -9223372036854775808 ≤ ta ∧ ta ≤ 9223372036854775807) (wb : -9223372036854775808 ≤ tb ∧ tb ≤ 9223372036854775807) (wd : -9223372036854775808 ≤ td ∧ td ≤ 9223372036854775807) :
    corbellaw15_MendEnds (9700 + 300) a0 a1 a2 a3 a4 ta tb tc td la ks = some true := by
  unfold corbellaw15_MendEnds
  rw [speaks15, refgood_val]
  simp only [optb, Bool.not_true, cond_false]
  generalize hk : 9700 + 300 = k
  by_cases g : GG a0 a1 a2 a3 a4
  · rw [decide_eq_true g, zones_yes k g, cap_yes k g]
    have g' := g
    obtain ⟨h1, h2, h3, h4, h5, h6, _⟩ := g'
    have hc := cap_bound g
    simp only [Bool.not_true, cond_false]
    rw [decide_eq_false (show ¬ a1 - 3 = 0 by omega), w64 (n := (a0 - 1) * a2 + 1) (by omega) (by omega), decide_eq_false (show ¬ (a0 - 1) * a2 + 1 = 0 by omega)]
    simp only [cond_false, corbellaw15_MendEnds_j0, corbellaw15_MendEnds_j1, corbellaw15_MendEnds_j2]
    have bz := mod_in2 wa (c := a1 - 3) (by omega) (by omega)
    have bs := mod_in wb (c := (a0 - 1) * a2 + 1) (by omega) (by omega)
    rw [show (a0 - 1) * a2 + 1 - 1 = (a0 - 1) * a2 by omega] at bs
    have bm := mod_in wd (c := a0 + 1) (by omega) (by omega)
    rw [show a0 + 1 - 1 = a0 by omega] at bm
    generalize Int.tmod (wrap64 (Int.tmod ta (a1 - 3) + (a1 - 3))) (a1 - 3) = z at bz ⊢
    generalize Int.tmod (wrap64 (wrap64 (Int.tmod tb ((a0 - 1) * a2 + 1) + (a0 - 1) * a2) + 1)) ((a0 - 1) * a2 + 1) = sure at bs ⊢
    rw [w64 (n := (a0 - 1) * a2 - sure) (by omega) (by omega), w64 (n := (a0 - 1) * a2 - sure + 1) (by omega) (by omega), decide_eq_false (show ¬ (a0 - 1) * a2 - sure + 1 = 0 by omega), w64 (n := a0 + 1) (by omega) (by omega), decide_eq_false (show ¬ a0 + 1 = 0 by omega), w64 (n := a0 - 1) (by omega) (by omega), decide_eq_false (show ¬ a0 - 1 = 0 by omega)]
    have hm := and_mask tc 10 (by omega)
    rw [show ((2 : Int) ^ 10 - 1) = 1023 by decide, show ((2 : Int) ^ 10) = 1024 by decide] at hm
    rw [hm, tmod_pos (Int.emod_nonneg tc (by decide))]
    have x0 := Int.emod_nonneg tc (show (1024 : Int) ≠ 0 by decide)
    have y0 := Int.emod_nonneg (tc % 1024) (show (a0 - 1) * a2 - sure + 1 ≠ 0 by omega)
    have y1 := Int.emod_lt_of_pos (tc % 1024) (show 0 < (a0 - 1) * a2 - sure + 1 by omega)
    rw [w64 (n := sure + tc % 1024 % ((a0 - 1) * a2 - sure + 1)) (by omega) (by omega)]
    generalize hall : sure + tc % 1024 % ((a0 - 1) * a2 - sure + 1) = all at *
    generalize Int.tmod (wrap64 (wrap64 (Int.tmod td (a0 + 1) + a0) + 1)) (a0 + 1) = mm at bm ⊢
    rw [w64 (n := mm - 1) (by omega) (by omega)]
    generalize hmm : mm - 1 = m at *
    simp only [cond_false]
    rw [lengths_in k (by omega) g ⟨bz.1, bz.2, bs.1, by omega⟩, lengths_in k (by omega) g ⟨bz.1, bz.2, by omega, by omega⟩]
    rw [optb_some, optb_some]
    exact ends_core a0 a1 a2 a3 a4 z sure all m ks k hk g bz bs (by omega) (by omega) (by omega)
  · rw [decide_eq_false g]; rfl
theorem MendEnds : MendEndsPure := fun x0 x1 x2 _ h1 _ => ⟨9700 + 300, ends_main _ _ _ _ _ _ _ _ _ _ _ (wf_i64 h1.1) (wf_i64 h1.2.1) (wf_i64 h1.2.2.2)⟩
end Go.Proofs.Ytcikcikcjimcjaa.Pure
