/- TailGrows: the pure statement, over numbers and lists alone; no conditions. -/
import Derived.Test.YthilffdaofaalaaStatTailGrows
set_option linter.unusedVariables false
set_option linter.unusedSimpArgs false
namespace Go.Proofs.Ythilffdaofaalaa.Pure
open Go Go.RowKit Go.Proofs.Ythilffdaofaalaa.Ev
/-! ### whole numbers -/
theorem wf_i64 {n : Int} (h : Ty.wf (.int .i64) n) : -9223372036854775808 ≤ n ∧ n ≤ 9223372036854775807 := by
  have h : (Lit.int .i64 n).wf = true := h
  simpa [Lit.wf, IntKind.min, IntKind.max, IntKind.signed, IntKind.bits] using h
theorem w64 {n : Int} (h0 : -9223372036854775808 ≤ n) (h1 : n ≤ 9223372036854775807) : wrap64 n = n := by unfold wrap64; omega
theorem tdiv_pos {a b : Int} (ha : 0 ≤ a) : Int.tdiv a b = a / b := Int.tdiv_eq_ediv_of_nonneg ha
theorem tmod_pos {a b : Int} (ha : 0 ≤ a) : Int.tmod a b = a % b := Int.tmod_eq_emod_of_nonneg ha
theorem bytesOf_append (a b : List Int) : bytesOf a ++ bytesOf b = bytesOf (a ++ b) := by
  apply ByteArray.ext
  simp [bytesOf]
theorem cond_t {α : Type} {c : Bool} {a b : α} (h : c = true) : (bif c then a else b) = a := by rw [h]; rfl
theorem cond_f {α : Type} {c : Bool} {a b : α} (h : c = false) : (bif c then a else b) = b := by rw [h]; rfl
/-! ### the shape of an array of drives -/
def GG (a0 a1 a2 a3 a4 : Int) : Prop := 3 ≤ a0 ∧ a0 ≤ 16 ∧ 5 ≤ a1 ∧ a1 ≤ 64 ∧ 4 ≤ a2 ∧ a2 ≤ 256 ∧ 1 ≤ a3 ∧ a3 ≤ a4 ∧ a4 ≤ a1
instance (a0 a1 a2 a3 a4 : Int) : Decidable (GG a0 a1 a2 a3 a4) := by unfold GG; infer_instance
theorem within_val (k : Nat) (n l h : Int) : geom_within k n l h = some (decide (l ≤ n ∧ n ≤ h)) := by
  unfold geom_within
  by_cases a : l ≤ n <;> simp [a]
theorem good_val (k : Nat) (a0 a1 a2 a3 a4 : Int) : geom_Good k a0 a1 a2 a3 a4 = some (decide (GG a0 a1 a2 a3 a4)) := by
  unfold geom_Good
  simp only [within_val, optb]
  by_cases h1 : 3 ≤ a0 ∧ a0 ≤ 16 <;> by_cases h2 : 5 ≤ a1 ∧ a1 ≤ 64 <;> by_cases h3 : 4 ≤ a2 ∧ a2 ≤ 256 <;> by_cases h4 : 1 ≤ a3 ∧ a3 ≤ a4 <;> simp only [h1, h2, h3, h4, decide_true, decide_false, cond_true, cond_false, Option.some.injEq, decide_eq_decide, and_self] <;> first | (unfold GG; omega) | (symm; rw [decide_eq_false_iff_not]; unfold GG; omega)
theorem refgood_val (k : Nat) (a0 a1 a2 a3 a4 : Int) : corbelref04_Good k a0 a1 a2 a3 a4 = some (decide (GG a0 a1 a2 a3 a4)) := by
  unfold corbelref04_Good corbelref04_Good_j0 corbelref04_Good_k0 corbelref04_Good_k1
  by_cases h1 : a0 < 3 <;> by_cases h2 : 16 < a0 <;> by_cases h3 : a1 < 5 <;> by_cases h4 : 64 < a1 <;> by_cases h5 : a2 < 4 <;> by_cases h6 : 256 < a2 <;> by_cases h7 : 0 < a3 <;> by_cases h8 : a3 ≤ a4 <;>
    simp only [h1, h2, h3, h4, h5, h6, h7, h8, decide_true, decide_false, cond_true, cond_false, Option.some.injEq, decide_eq_decide] <;> first | (unfold GG; omega) | (symm; rw [decide_eq_false_iff_not]; unfold GG; omega)
section
variable {a0 a1 a2 a3 a4 : Int}
theorem cap_bound (h : GG a0 a1 a2 a3 a4) : 8 ≤ (a0 - 1) * a2 ∧ (a0 - 1) * a2 ≤ 3840 := by
  obtain ⟨h1, h2, _, _, h5, h6, _⟩ := h
  have e1 : 2 * 4 ≤ (a0 - 1) * a2 := Int.mul_le_mul (by omega) h5 (by omega) (by omega)
  have e2 : (a0 - 1) * a2 ≤ 15 * 256 := Int.mul_le_mul (by omega) h6 (by omega) (by omega)
  omega
theorem zones_yes (k : Nat) (h : GG a0 a1 a2 a3 a4) : geom_Zones k a0 a1 a2 a3 a4 = some (a1 - 3) := by
  unfold geom_Zones
  rw [good_val, decide_eq_true h]
  obtain ⟨_, _, h1, h2, _⟩ := h
  show some _ = _
  rw [w64 (n := a1 - 2) (by omega) (by omega), w64 (by omega) (by omega)]
  congr 1; omega
theorem zones_no (k : Nat) (h : ¬ GG a0 a1 a2 a3 a4) : geom_Zones k a0 a1 a2 a3 a4 = some 0 := by
  unfold geom_Zones
  rw [good_val, decide_eq_false h]; rfl
theorem cap_yes (k : Nat) (h : GG a0 a1 a2 a3 a4) : geom_Capacity k a0 a1 a2 a3 a4 = some ((a0 - 1) * a2) := by
  unfold geom_Capacity
  rw [good_val, decide_eq_true h]
  have hb := cap_bound h
  obtain ⟨h1, h2, _⟩ := h
  show some _ = _
  rw [w64 (n := a0 - 1) (by omega) (by omega), w64 (by omega) (by omega)]
theorem cap_no (k : Nat) (h : ¬ GG a0 a1 a2 a3 a4) : geom_Capacity k a0 a1 a2 a3 a4 = some 0 := by
  unfold geom_Capacity
  rw [good_val, decide_eq_false h]; rfl
theorem there_yes (k : Nat) (h : GG a0 a1 a2 a3 a4) (z r : Int) : geom_there k a0 a1 a2 a3 a4 z r = some (decide (0 ≤ z ∧ z < a1 - 3 ∧ 0 ≤ r ∧ r < a2)) := by
  unfold geom_there
  rw [zones_yes k h]
  obtain ⟨h1, h2, h3, h4, h5, h6, _⟩ := h
  simp only [optb, within_val]
  rw [w64 (n := a1 - 3 - 1) (by omega) (by omega), w64 (n := a2 - 1) (by omega) (by omega)]
  by_cases h7 : 0 ≤ z ∧ z ≤ a1 - 3 - 1
  · rw [decide_eq_true h7]
    simp only [cond_true, Option.some.injEq, decide_eq_decide]
    omega
  · rw [decide_eq_false h7, decide_eq_false (show ¬ (0 ≤ z ∧ z < a1 - 3 ∧ 0 ≤ r ∧ r < a2) by omega)]; rfl
theorem there_no (k : Nat) (h : ¬ GG a0 a1 a2 a3 a4) (z r : Int) : geom_there k a0 a1 a2 a3 a4 z r = some false := by
  unfold geom_there
  rw [zones_no k h]
  simp only [optb, within_val]
  have : wrap64 (0 - 1) = -1 := by kernel_rfl
  rw [this, decide_eq_false (by omega)]; rfl
end
/-! ### loops over whole numbers -/
noncomputable def dc (P : Prop) : Bool := @decide P (Classical.propDecidable P)
theorem dc_t {P : Prop} (h : P) : dc P = true := @decide_eq_true P (Classical.propDecidable P) h
theorem dc_f {P : Prop} (h : ¬ P) : dc P = false := @decide_eq_false P (Classical.propDecidable P) h
theorem dc_iff {P : Prop} : dc P = true ↔ P := ⟨fun h => @of_decide_eq_true P (Classical.propDecidable P) h, dc_t⟩
theorem dc_congr {P Q : Prop} (h : P ↔ Q) : dc P = dc Q := by rw [propext h]
theorem dc_dec {P : Prop} [Decidable P] : decide P = dc P := by
  by_cases h : P
  · rw [decide_eq_true h, dc_t h]
  · rw [decide_eq_false h, dc_f h]
theorem dc_and (P Q : Prop) : (dc P && dc Q) = dc (P ∧ Q) := by
  by_cases h : P
  · by_cases h2 : Q
    · rw [dc_t h, dc_t h2, dc_t ⟨h, h2⟩]; rfl
    · rw [dc_f h2, dc_f (fun x : P ∧ Q => h2 x.2), Bool.and_false]
  · rw [dc_f h, dc_f (fun x : P ∧ Q => h x.1)]; rfl
/-- up to the first number without `P` -/
theorem loopUp {R : Type} (f : Nat → Int → Option R) (lo to : Int) (P : Int → Prop) (yes : Option R) (no : Int → Option R)
    (hs : ∀ j i, lo ≤ i → i < to → P i → f (j + 1) i = f j (i + 1)) (hn : ∀ j i, lo ≤ i → i < to → ¬ P i → f (j + 1) i = no i) (he : ∀ j i, lo ≤ i → to ≤ i → f (j + 1) i = yes) :
    ∀ n j i, lo ≤ i → (to - i).toNat = n → n < j → ((∀ q, i ≤ q → q < to → P q) ∧ f j i = yes) ∨ (∃ q, i ≤ q ∧ q < to ∧ ¬ P q ∧ (∀ u, i ≤ u → u < q → P u) ∧ f j i = no q) := by
  intro n
  induction n with
  | zero =>
    intro j i hl h hj
    obtain ⟨j, rfl⟩ : ∃ u, j = u + 1 := ⟨j - 1, by omega⟩
    exact .inl ⟨fun q h1 h2 => absurd h2 (by omega), he j i hl (by omega)⟩
  | succ n ih =>
    intro j i hl h hj
    obtain ⟨j, rfl⟩ : ∃ u, j = u + 1 := ⟨j - 1, by omega⟩
    by_cases hp : P i
    · rw [hs j i hl (by omega) hp]
      rcases ih j (i + 1) (by omega) (by omega) (by omega) with ⟨h1, h2⟩ | ⟨q, h1, h2, h3, h4, h5⟩
      · refine .inl ⟨fun q h3 h4 => ?_, h2⟩
        by_cases e : q = i
        · rw [e]; exact hp
        · exact h1 q (by omega) h4
      · refine .inr ⟨q, by omega, h2, h3, fun u h6 h7 => ?_, h5⟩
        by_cases e : u = i
        · rw [e]; exact hp
        · exact h4 u (by omega) h7
    · exact .inr ⟨i, by omega, by omega, hp, fun u h1 h2 => absurd h2 (by omega), hn j i hl (by omega) hp⟩
/-- the same, for a loop that ends where it should -/
theorem loopTo {R : Type} (f : Nat → Int → Option R) (lo to : Int) (P : Int → Prop) (yes : Option R) (no : Int → Option R)
    (hs : ∀ j i, lo ≤ i → i < to → P i → f (j + 1) i = f j (i + 1)) (hn : ∀ j i, lo ≤ i → i < to → ¬ P i → f (j + 1) i = no i) (he : ∀ j, f (j + 1) to = yes) :
    ∀ n j i, lo ≤ i → i ≤ to → (to - i).toNat = n → n < j → ((∀ q, i ≤ q → q < to → P q) ∧ f j i = yes) ∨ (∃ q, i ≤ q ∧ q < to ∧ ¬ P q ∧ (∀ u, i ≤ u → u < q → P u) ∧ f j i = no q) := by
  intro n
  induction n with
  | zero =>
    intro j i hl hle h hj
    obtain ⟨j, rfl⟩ : ∃ u, j = u + 1 := ⟨j - 1, by omega⟩
    exact .inl ⟨fun q h1 h2 => absurd h2 (by omega), by rw [show i = to by omega]; exact he j⟩
  | succ n ih =>
    intro j i hl hle h hj
    obtain ⟨j, rfl⟩ : ∃ u, j = u + 1 := ⟨j - 1, by omega⟩
    by_cases hp : P i
    · rw [hs j i hl (by omega) hp]
      rcases ih j (i + 1) (by omega) (by omega) (by omega) (by omega) with ⟨h1, h2⟩ | ⟨q, h1, h2, h3, h4, h5⟩
      · refine .inl ⟨fun q h3 h4 => ?_, h2⟩
        by_cases e : q = i
        · rw [e]; exact hp
        · exact h1 q (by omega) h4
      · refine .inr ⟨q, by omega, h2, h3, fun u h6 h7 => ?_, h5⟩
        by_cases e : u = i
        · rw [e]; exact hp
        · exact h4 u (by omega) h7
    · exact .inr ⟨i, by omega, by omega, hp, fun u h1 h2 => absurd h2 (by omega), hn j i hl (by omega) hp⟩
theorem loopAll {R : Type} (f : Nat → Int → Option R) (lo to : Int) (P : Int → Prop) (yes no : Option R)
    (hs : ∀ j i, lo ≤ i → i < to → P i → f (j + 1) i = f j (i + 1)) (hn : ∀ j i, lo ≤ i → i < to → ¬ P i → f (j + 1) i = no) (he : ∀ j i, lo ≤ i → to ≤ i → f (j + 1) i = yes)
    (j : Nat) (i : Int) (hl : lo ≤ i) (hj : (to - i).toNat < j) : f j i = bif dc (∀ q, i ≤ q → q < to → P q) then yes else no := by
  rcases loopUp f lo to P yes (fun _ => no) hs hn he _ j i hl rfl hj with ⟨h1, h2⟩ | ⟨q, h1, h2, h3, _, h5⟩
  · rw [dc_t h1, h2]; rfl
  · rw [dc_f (fun h => h3 (h q h1 h2)), h5]; rfl
/-- the last number below `n` with `P` -/
noncomputable def lastI (P : Int → Prop) : Nat → Int
  | 0 => -1
  | n + 1 => bif dc (P n) then n else lastI P n
theorem lastI_lt (P : Int → Prop) (n : Nat) : -1 ≤ lastI P n ∧ lastI P n < n := by
  induction n with
  | zero => exact ⟨Int.le_refl (-1), by show (-1 : Int) < 0; decide⟩
  | succ n ih =>
    unfold lastI
    cases dc (P n) with
    | true => rw [cond_true]; omega
    | false => rw [cond_false]; omega
theorem lastI_yes (P : Int → Prop) (n : Nat) (h : 0 ≤ lastI P n) : P (lastI P n) := by
  induction n with
  | zero => exact absurd (show (0 : Int) ≤ -1 from h) (by decide)
  | succ n ih =>
    unfold lastI at h ⊢
    by_cases hp : P n
    · rw [dc_t hp]; exact hp
    · rw [dc_f hp] at h ⊢; exact ih h
theorem lastI_no (P : Int → Prop) (n : Nat) : 0 ≤ lastI P n ↔ ∃ q : Nat, q < n ∧ P q := by
  induction n with
  | zero => exact ⟨fun h => absurd (show (0 : Int) ≤ -1 from h) (by decide), fun ⟨q, h, _⟩ => absurd h (by omega)⟩
  | succ n ih =>
    unfold lastI
    by_cases hp : P n
    · rw [dc_t hp]; exact ⟨fun _ => ⟨n, by omega, hp⟩, fun _ => by rw [cond_true]; omega⟩
    · rw [dc_f hp, cond_false, ih]
      refine ⟨fun ⟨q, h1, h2⟩ => ⟨q, by omega, h2⟩, fun ⟨q, h1, h2⟩ => ⟨q, ?_, h2⟩⟩
      by_cases e : q = n
      · rw [e] at h2; exact absurd h2 hp
      · omega
theorem lastI_congr {P Q : Int → Prop} (n : Nat) (h : ∀ q : Nat, q < n → (P q ↔ Q q)) : lastI P n = lastI Q n := by
  induction n with
  | zero => rfl
  | succ n ih => unfold lastI; rw [dc_congr (h n (by omega)), ih (fun q hq => h q (by omega))]
theorem loopDown {R : Type} (f : Nat → Int → Option R) (N : Nat) (P : Int → Prop) (yes : Int → Option R) (no : Option R)
    (hy : ∀ j (i : Nat), i < N → P i → f (j + 1) i = yes i) (hn : ∀ j (i : Nat), i < N → ¬ P i → f (j + 1) i = f j (i - 1)) (he : ∀ j, f (j + 1) (-1) = no) :
    ∀ n j, n ≤ N → n < j → f j (n - 1) = bif decide (0 ≤ lastI P n) then yes (lastI P n) else no := by
  intro n
  induction n with
  | zero =>
    intro j _ hj
    obtain ⟨j, rfl⟩ : ∃ u, j = u + 1 := ⟨j - 1, by omega⟩
    exact he j
  | succ n ih =>
    intro j hN hj
    obtain ⟨j, rfl⟩ : ∃ u, j = u + 1 := ⟨j - 1, by omega⟩
    rw [show ((n + 1 : Nat) : Int) - 1 = (n : Int) by omega]
    unfold lastI
    by_cases hp : P n
    · rw [hy j n (by omega) hp, dc_t hp, cond_true, decide_eq_true (by omega)]; rfl
    · rw [hn j n (by omega) hp, dc_f hp, cond_false]; exact ih j (by omega) (by omega)
/-- a state that is carried along -/
def foldI {S : Type} (g : Int → S → S) : Nat → Int → S → S
  | 0, _, s => s
  | n + 1, i, s => foldI g n (i + 1) (g i s)
theorem loopFold {R S : Type} (f : Nat → S → Int → Option R) (lo to : Int) (g : Int → S → S) (e : S → Option R)
    (hs : ∀ j s i, lo ≤ i → i < to → f (j + 1) s i = f j (g i s) (i + 1)) (he : ∀ j s i, lo ≤ i → to ≤ i → f (j + 1) s i = e s) :
    ∀ n j s i, lo ≤ i → (to - i).toNat = n → n < j → f j s i = e (foldI g n i s) := by
  intro n
  induction n with
  | zero =>
    intro j s i hl h hj
    obtain ⟨j, rfl⟩ : ∃ u, j = u + 1 := ⟨j - 1, by omega⟩
    exact he j s i hl (by omega)
  | succ n ih =>
    intro j s i hl h hj
    obtain ⟨j, rfl⟩ : ∃ u, j = u + 1 := ⟨j - 1, by omega⟩
    rw [hs j s i hl (by omega), ih j _ _ (by omega) (by omega) (by omega)]; rfl
theorem foldI_and (P : Int → Prop) : ∀ n i a, foldI (fun i a => a && dc (P i)) n i a = (a && dc (∀ q, i ≤ q → q < i + (n : Nat) → P q)) := by
  intro n
  induction n with
  | zero => intro i a; rw [dc_t (fun q h1 h2 => absurd h2 (by omega)), Bool.and_true]; rfl
  | succ n ih =>
    intro i a
    show foldI _ n (i + 1) (a && dc (P i)) = _
    rw [ih, Bool.and_assoc, dc_and]
    congr 1
    refine dc_congr ⟨fun ⟨h, h'⟩ q h1 h2 => ?_, fun h => ⟨h i (by omega) (by omega), fun q h1 h2 => h q (by omega) (by omega)⟩⟩
    by_cases e : q = i
    · rw [e]; exact h
    · exact h' q (by omega) (by omega)
theorem foldI_snoc {S : Type} (g : Int → S → S) : ∀ n i s, foldI g (n + 1) i s = g (i + (n : Nat)) (foldI g n i s) := by
  intro n
  induction n with
  | zero => intro i s; show g i s = g (i + 0) s; rw [Int.add_zero]
  | succ n ih =>
    intro i s
    show foldI g (n + 1) (i + 1) (g i s) = _
    rw [ih]
    show g (i + 1 + (n : Nat)) _ = g (i + ((n + 1 : Nat) : Int)) (foldI g n (i + 1) (g i s))
    congr 1; omega
theorem foldI_last (P : Int → Prop) (n : Nat) : foldI (fun i a => bif dc (P i) then i else a) n 0 (-1) = lastI P n := by
  induction n with
  | zero => rfl
  | succ n ih => rw [foldI_snoc, ih]; show _ = (bif dc (P n) then (n : Int) else lastI P n); rw [Int.zero_add]
/-! ### reading a list -/
def lat (L : List Int) (q : Int) : Int := L.getD q.toNat 0
theorem lat_some {L : List Int} {q : Int} (h0 : 0 ≤ q) (h1 : q < L.length) : L[q.toNat]? = some (lat L q) := by
  have h : q.toNat < L.length := by omega
  unfold lat
  rw [List.getD_eq_getElem?_getD, List.getElem?_eq_getElem h]; rfl
theorem lat_wf {L : List Int} {b : Bool} (h : Ty.wf (.sl (.int .i64)) (b, L)) (q : Int) (h0 : 0 ≤ q) (h1 : q < L.length) : -9223372036854775808 ≤ lat L q ∧ lat L q ≤ 9223372036854775807 := by
  have hm : lat L q ∈ L := by
    have h : q.toNat < L.length := by omega
    unfold lat
    rw [List.getD_eq_getElem?_getD, List.getElem?_eq_getElem h]; exact List.getElem_mem h
  exact wf_i64 (h.2.2 _ hm)
/-! ### where a block lies -/
def sl (d z r p : Int) : Int := ((z + r) % d + 1 + p) % d
theorem sl_lt {d : Int} (hd : 0 < d) (z r p : Int) : 0 ≤ sl d z r p ∧ sl d z r p < d := ⟨Int.emod_nonneg _ (by omega), Int.emod_lt_of_pos _ hd⟩
section
variable {a0 a1 a2 a3 a4 : Int}
theorem par_yes (k : Nat) (h : GG a0 a1 a2 a3 a4) {z r : Int} (t : 0 ≤ z ∧ z < a1 - 3 ∧ 0 ≤ r ∧ r < a2) : geom_Parity k a0 a1 a2 a3 a4 z r = some ((z + r) % a0) := by
  unfold geom_Parity
  rw [there_yes k h, decide_eq_true t]
  obtain ⟨h1, h2, h3, h4, h5, h6, _⟩ := h
  simp only [optb, Bool.not_true, cond_false]
  rw [decide_eq_false (show ¬ a0 = 0 by omega), cond_false, w64 (by omega) (by omega), tmod_pos (by omega)]
theorem block_row {d b rows : Int} (hd : 3 ≤ d) (hb : 0 ≤ b) (hc : b < (d - 1) * rows) : 0 ≤ b / (d - 1) ∧ b / (d - 1) < rows ∧ 0 ≤ b % (d - 1) ∧ b % (d - 1) < d - 1 := by
  refine ⟨Int.ediv_nonneg hb (by omega), Int.ediv_lt_of_lt_mul (by omega) ?_, Int.emod_nonneg _ (by omega), Int.emod_lt_of_pos _ (by omega)⟩
  rw [Int.mul_comm]; exact hc
theorem slot_par (k : Nat) (h : GG a0 a1 a2 a3 a4) {z r : Int} (t : 0 ≤ z ∧ z < a1 - 3 ∧ 0 ≤ r ∧ r < a2) {p : Int} (p0 : -1 ≤ p) (p1 : p < 1000) : Int.tmod (wrap64 (wrap64 ((z + r) % a0 + 1) + p)) a0 = sl a0 z r p := by
  obtain ⟨h1, h2, h3, h4, h5, h6, _⟩ := h
  have e0 := Int.emod_nonneg (z + r) (show a0 ≠ 0 by omega)
  have e1 := Int.emod_lt_of_pos (z + r) (show 0 < a0 by omega)
  rw [w64 (n := (z + r) % a0 + 1) (by omega) (by omega), w64 (by omega) (by omega), tmod_pos (by omega)]; rfl
end
section
variable {a0 a1 a2 a3 a4 : Int}
theorem place_yes (k : Nat) (h : GG a0 a1 a2 a3 a4) {z b : Int} (z0 : 0 ≤ z) (z1 : z < a1 - 3) (b0 : 0 ≤ b) (b1 : b < (a0 - 1) * a2) :
    geom_Place k a0 a1 a2 a3 a4 z b = some (b / (a0 - 1), sl a0 z (b / (a0 - 1)) (b % (a0 - 1)), true) := by
  unfold geom_Place
  have hc := cap_bound h
  have hr := block_row (rows := a2) (by obtain ⟨h1, _⟩ := h; omega) b0 b1
  have h' := h
  obtain ⟨h1, h2, h3, h4, h5, h6, _⟩ := h'
  rw [there_yes k h, decide_eq_true (show 0 ≤ z ∧ z < a1 - 3 ∧ 0 ≤ (0 : Int) ∧ 0 < a2 by omega), cap_yes k h]
  simp only [optb, Bool.not_true, cond_false, within_val]
  rw [w64 (n := (a0 - 1) * a2 - 1) (by omega) (by omega), decide_eq_true (show 0 ≤ b ∧ b ≤ (a0 - 1) * a2 - 1 by omega)]
  simp only [Bool.not_true, geom_Place_j0, geom_Place_k1, geom_Place_j1, cond_false, optb]
  have hq : b / (a0 - 1) ≤ 300 := by omega
  rw [w64 (n := a0 - 1) (by omega) (by omega), decide_eq_false (show ¬ a0 - 1 = 0 by omega)]
  simp only [cond_false]
  rw [tdiv_pos b0, tmod_pos b0, w64 (n := b / (a0 - 1)) (by omega) (by omega), par_yes k h ⟨z0, z1, hr.1, hr.2.1⟩]
  simp only [optb]
  rw [decide_eq_false (show ¬ a0 = 0 by omega), cond_false, slot_par k h ⟨z0, z1, hr.1, hr.2.1⟩ (by omega) (by omega)]
theorem place_no (k : Nat) {z b : Int} (h : ¬ (GG a0 a1 a2 a3 a4 ∧ 0 ≤ z ∧ z < a1 - 3 ∧ 0 ≤ b ∧ b < (a0 - 1) * a2)) :
    geom_Place k a0 a1 a2 a3 a4 z b = some (0, 0, false) := by
  unfold geom_Place
  by_cases g : GG a0 a1 a2 a3 a4
  · have hc := cap_bound g
    have g' := g
    obtain ⟨h1, h2, h3, h4, h5, h6, _⟩ := g'
    rw [there_yes k g, cap_yes k g]
    simp only [optb, within_val]
    rw [w64 (n := (a0 - 1) * a2 - 1) (by omega) (by omega)]
    by_cases t : 0 ≤ z ∧ z < a1 - 3
    · rw [decide_eq_true (show 0 ≤ z ∧ z < a1 - 3 ∧ 0 ≤ (0 : Int) ∧ 0 < a2 by omega), decide_eq_false (show ¬ (0 ≤ b ∧ b ≤ (a0 - 1) * a2 - 1) from fun x => h ⟨g, t.1, t.2, x.1, by omega⟩)]; rfl
    · rw [decide_eq_false (show ¬ (0 ≤ z ∧ z < a1 - 3 ∧ 0 ≤ (0 : Int) ∧ 0 < a2) by omega)]; rfl
  · rw [there_no k g]; rfl
end
/-! ### what the tail says -/
def okx (rows x : Int) : Prop := 0 ≤ x ∧ x ≤ rows
def CAN (a0 a1 a2 a3 a4 : Int) (L : List Int) (m : Int) : Prop := GG a0 a1 a2 a3 a4 ∧ (L.length : Int) = a0 ∧ -1 ≤ m ∧ m < a0 ∧ ∀ q : Int, 0 ≤ q → q < L.length → okx a2 (lat L q)
def has (L : List Int) (m s r : Int) : Prop := s ≠ m ∧ r < lat L s
/-- every slot of a run of places but one's own is there -/
def allB (d z r : Int) (L : List Int) (m p least wide : Int) : Prop := ∀ q, least ≤ q → q < wide → q ≠ p → has L m (sl d z r q) r
section
variable {a0 a1 a2 a3 a4 : Int}
theorem can_val (k : Nat) (hk : 100 ≤ k) (va : Bool) (L : List Int) (m : Int) (vd : Bool) (ve : List (Int × Int)) :
    tail_View_can k va L m vd ve a0 a1 a2 a3 a4 = some (dc (CAN a0 a1 a2 a3 a4 L m)) := by
  unfold tail_View_can
  rw [good_val]
  simp only [optb, lenI_eq]
  by_cases g : GG a0 a1 a2 a3 a4
  · rw [decide_eq_true g, cond_true]
    by_cases h1 : (L.length : Int) = a0
    · rw [decide_eq_true h1, cond_true]
      by_cases h2 : -1 ≤ m
      · rw [decide_eq_true h2, cond_true]
        by_cases h3 : m < a0
        · rw [decide_eq_true h3, cond_true]
          have hd : a0 ≤ 16 := g.2.1
          rcases loopUp (tail_View_can_i92_2_l0 (fun v => some (!(decide ((0 : Int) ≤ v)))) (some true) k L L.length a2) 0 L.length (fun q => okx a2 (lat L q)) (some true) (fun _ => some false)
            (fun j i i0 i1 hp => by
              rw [tail_View_can_i92_2_l0]; unfold tail_View_can_i92_2_l0s tail_View_can_i92_2_j1
              rw [decide_eq_true i1, decide_eq_true i0, cond_true, cond_true, lat_some i0 i1]
              simp only [optb]
              rw [decide_eq_false (show ¬ lat L i < 0 from fun x => by have := hp.1; omega), decide_eq_false (show ¬ a2 < lat L i from fun x => by have := hp.2; omega)]
              simp only [cond_false]
              rw [w64 (by omega) (by omega)])
            (fun j i i0 i1 hp => by
              rw [tail_View_can_i92_2_l0]; unfold tail_View_can_i92_2_l0s tail_View_can_i92_2_j1
              rw [decide_eq_true i1, decide_eq_true i0, cond_true, cond_true, lat_some i0 i1]
              simp only [optb]
              by_cases hx : lat L i < 0
              · rw [decide_eq_true hx, cond_true, cond_true, decide_eq_true i0]; rfl
              · rw [decide_eq_false hx, cond_false, decide_eq_true (show a2 < lat L i from by have : ¬ (0 ≤ lat L i ∧ lat L i ≤ a2) := hp; omega), cond_true, decide_eq_true i0]; rfl)
            (fun j i i0 i1 => by
              rw [tail_View_can_i92_2_l0]; unfold tail_View_can_i92_2_l0s
              rw [decide_eq_false (by omega), cond_false]) _ k 0 (by omega) rfl (by omega) with ⟨h4, h5⟩ | ⟨q, q0, q1, h4, _, h5⟩
          · rw [h5, dc_t ⟨g, h1, h2, h3, h4⟩]
          · rw [h5, dc_f (fun x => h4 (x.2.2.2.2 q q0 q1))]
        · rw [decide_eq_false h3, dc_f (fun x => h3 x.2.2.2.1)]; rfl
      · rw [decide_eq_false h2, dc_f (fun x => h2 x.2.2.1)]; rfl
    · rw [decide_eq_false h1, dc_f (fun x => h1 x.2.1)]; rfl
  · rw [decide_eq_false g, dc_f (fun x => g x.1)]; rfl
theorem slot_val (k : Nat) (g : GG a0 a1 a2 a3 a4) {z r : Int} (t : 0 ≤ z ∧ z < a1 - 3 ∧ 0 ≤ r ∧ r < a2) {q : Int} (p0 : -1 ≤ q) (p1 : q < 1000) (sa : Bool) (L : List Int) (m : Int) (sd : Bool) (ns : List (Int × Int)) (sm : Int) :
    tail_spot_slot k sa L m sd ns a0 a1 a2 a3 a4 z r sm q = some (sl a0 z r q) := by
  unfold tail_spot_slot tail_spot_slot_j0
  rw [par_yes k g t]
  simp only [optb]
  rw [decide_eq_false (show ¬ a0 = 0 by have := g.1; omega), cond_false, slot_par k g t p0 p1]
theorem has_val (k : Nat) (va : Bool) (L : List Int) (m : Int) (vd : Bool) (ns : List (Int × Int)) {s r : Int} (s0 : 0 ≤ s) (s1 : s < L.length) :
    tail_View_has k va L m vd ns s r = some (dc (has L m s r)) := by
  unfold tail_View_has
  by_cases h : s = m
  · rw [decide_eq_true h, dc_f (fun x => x.1 h)]; rfl
  · rw [decide_eq_false h, decide_eq_true s0]
    simp only [Bool.not_false, cond_true]
    rw [lat_some s0 s1]
    simp only [optb]
    rw [dc_dec]; exact congrArg some (dc_congr ⟨fun x => ⟨h, x⟩, fun x => x.2⟩)
theorem others_val (k : Nat) (hk : 100 ≤ k) (g : GG a0 a1 a2 a3 a4) {z r : Int} (t : 0 ≤ z ∧ z < a1 - 3 ∧ 0 ≤ r ∧ r < a2) (sa : Bool) (L : List Int) (m : Int) (hL : (L.length : Int) = a0) (sd : Bool) (ns : List (Int × Int)) (p : Int) {least wide : Int} (l0 : -1 ≤ least) (w1 : wide < a0) :
    tail_spot_others k sa L m sd ns a0 a1 a2 a3 a4 z r p least wide = some (dc (allB a0 z r L m p least wide)) := by
  unfold tail_spot_others
  have hd := g.2.1
  rw [loopAll (tail_spot_others_l0 (fun v => some v) (some true) k wide sa L m sd ns a0 a1 a2 a3 a4 z r p) (-1) wide (fun q => q ≠ p → has L m (sl a0 z r q) r) (some true) (some false)
    (fun j i i0 i1 hp => by
      rw [tail_spot_others_l0]; unfold tail_spot_others_l0s tail_spot_others_j1 tail_spot_others_k1 tail_spot_others_j2
      rw [decide_eq_true i1, cond_true]
      by_cases e : i = p
      · rw [decide_eq_true e, Bool.not_true, cond_false, cond_false, w64 (by omega) (by omega)]
      · rw [decide_eq_false e, Bool.not_false, cond_true, slot_val k g t (by omega) (by omega)]
        have hs := sl_lt (show 0 < a0 by have := g.1; omega) z r i
        simp only [optb]
        rw [has_val k sa L m sd ns hs.1 (by omega), dc_t (hp e)]
        simp only [Bool.not_true, cond_false]
        rw [w64 (by omega) (by omega)])
    (fun j i i0 i1 hp => by
      rw [tail_spot_others_l0]; unfold tail_spot_others_l0s tail_spot_others_j1
      rw [decide_eq_true i1, cond_true]
      by_cases e : i = p
      · exact absurd (fun x => absurd e x) hp
      · rw [decide_eq_false e, Bool.not_false, cond_true, slot_val k g t (by omega) (by omega)]
        have hs := sl_lt (show 0 < a0 by have := g.1; omega) z r i
        simp only [optb]
        rw [has_val k sa L m sd ns hs.1 (by omega), dc_f (fun x => hp (fun _ => x))]; rfl)
    (fun j i i0 i1 => by
      rw [tail_spot_others_l0]; unfold tail_spot_others_l0s
      rw [decide_eq_false (by omega), cond_false]) k least l0 (by omega)]
  unfold allB
  cases dc _ <;> rfl
def noteR (ns : List (Int × Int)) (i : Int) : Int := (ns.getD i.toNat (0, 0)).1
def noteW (ns : List (Int × Int)) (i : Int) : Int := (ns.getD i.toNat (0, 0)).2
theorem note_some {ns : List (Int × Int)} (i : Nat) (h : i < ns.length) : ns[((i : Int)).toNat]? = some (noteR ns i, noteW ns i) := by
  unfold noteR noteW
  rw [Int.toNat_natCast, List.getD_eq_getElem?_getD, List.getElem?_eq_getElem h]; rfl
/-- a note that helps -/
def helps (d z r : Int) (L : List Int) (m p : Int) (ns : List (Int × Int)) (i : Int) : Prop := noteR ns i = r ∧ p < noteW ns i ∧ noteW ns i ≤ d - 1 ∧ allB d z r L m p 0 (noteW ns i)
noncomputable def srcV (d z r p : Int) (L : List Int) (m : Int) (ns : List (Int × Int)) : Int × Int :=
  bif dc (has L m (sl d z r p) r) then (1, 0) else bif dc (sl d z r p ≠ m) then (0, 0) else bif dc (allB d z r L m p (-1) (d - 1)) then (2, 0)
  else bif decide (0 ≤ lastI (helps d z r L m p ns) ns.length) then (3, lastI (helps d z r L m p ns) ns.length) else (0, 0)
theorem spot_val (k : Nat) (g : GG a0 a1 a2 a3 a4) {z r : Int} (t : 0 ≤ z ∧ z < a1 - 3 ∧ 0 ≤ r ∧ r < a2) (sa : Bool) (L : List Int) (m : Int) (hL : (L.length : Int) = a0) (sd : Bool) (ns : List (Int × Int)) (hk : ns.length + 100 ≤ k) (hn : ns.length < 1000000) {p : Int} (p0 : 0 ≤ p) (p1 : p < a0 - 1) :
    tail_spot_source k sa L m sd ns a0 a1 a2 a3 a4 z r p = some (srcV a0 z r p L m ns) := by
  unfold tail_spot_source
  have hd := g.2.1
  have hs := sl_lt (show 0 < a0 by have := g.1; omega) z r p
  rw [slot_val k g t (by omega) (by omega)]
  simp only [optb]
  rw [has_val k sa L m sd ns hs.1 (by omega)]
  simp only [optb]
  unfold srcV
  by_cases h1 : has L m (sl a0 z r p) r
  · rw [dc_t h1]; rfl
  rw [dc_f h1]
  simp only [cond_false]
  by_cases h2 : sl a0 z r p = m
  · rw [decide_eq_true h2, dc_f (fun x : sl a0 z r p ≠ m => x h2), w64 (n := a0 - 1) (by omega) (by omega), others_val k (by omega) g t sa L m hL sd ns p (by omega) (by omega)]
    simp only [optb, Bool.not_true, cond_false]
    by_cases h3 : allB a0 z r L m p (-1) (a0 - 1)
    · rw [dc_t h3]; rfl
    rw [dc_f h3]
    simp only [cond_false, tail_spot_source_j0, lenI_eq]
    rw [w64 (by omega) (by omega)]
    rw [loopDown (tail_spot_source_l1 (fun v w => some (v, w)) (some (0, 0)) k (a0 - 1) sa L m sd ns a0 a1 a2 a3 a4 z r p) ns.length (helps a0 z r L m p ns) (fun i => some (3, i)) (some (0, 0))
      (fun j i hi hp => by
        rw [tail_spot_source_l1]; unfold tail_spot_source_l1s tail_spot_source_j2 tail_spot_source_k0
        rw [decide_eq_true (show (0 : Int) ≤ i by omega), cond_true, cond_true, note_some i hi]
        simp only [optb]
        rw [decide_eq_true hp.1, decide_eq_true hp.2.1, decide_eq_true hp.2.2.1]
        simp only [cond_true]
        rw [others_val k (by omega) g t sa L m hL sd ns p (by omega) (by have := hp.2.2.1; omega)]
        simp only [optb]
        rw [dc_t hp.2.2.2]; rfl)
      (fun j i hi hp => by
        rw [tail_spot_source_l1]; unfold tail_spot_source_l1s tail_spot_source_j2 tail_spot_source_k1 tail_spot_source_j3
        rw [decide_eq_true (show (0 : Int) ≤ i by omega), cond_true, cond_true, note_some i hi]
        simp only [optb]
        have hw : wrap64 ((i : Int) - 1) = (i : Int) - 1 := w64 (by omega) (by omega)
        by_cases e1 : noteR ns i = r
        · by_cases e2 : p < noteW ns i
          · by_cases e3 : noteW ns i ≤ a0 - 1
            · rw [decide_eq_true e1, decide_eq_true e2, decide_eq_true e3]
              simp only [cond_true]
              rw [others_val k (by omega) g t sa L m hL sd ns p (by omega) (by omega)]
              simp only [optb]
              rw [dc_f (fun x => hp ⟨e1, e2, e3, x⟩), cond_false, hw]
            · rw [decide_eq_true e1, decide_eq_true e2, decide_eq_false e3]
              simp only [cond_true, cond_false, hw]
          · rw [decide_eq_true e1, decide_eq_false e2]
            simp only [cond_true, cond_false, hw]
        · rw [decide_eq_false e1]
          simp only [cond_false, hw])
      (fun j => by
        rw [tail_spot_source_l1]; unfold tail_spot_source_l1s
        rfl) ns.length k (Nat.le_refl _) (by omega)]
    cases decide (0 ≤ lastI (helps a0 z r L m p ns) ns.length) <;> rfl
  · rw [decide_eq_false h2, dc_t h2]; rfl
noncomputable def blkV (d z : Int) (L : List Int) (m : Int) (ns : List (Int × Int)) (b : Int) : Int × Int := srcV d z (b / (d - 1)) (b % (d - 1)) L m ns
theorem source_yes (k : Nat) (sa : Bool) (L : List Int) (m : Int) (sd : Bool) (ns : List (Int × Int)) (c : CAN a0 a1 a2 a3 a4 L m) {z b : Int} (z0 : 0 ≤ z) (z1 : z < a1 - 3) (b0 : 0 ≤ b) (b1 : b < (a0 - 1) * a2)
    (hk : ns.length + 100 ≤ k) (hn : ns.length < 1000000) : tail_Source k a0 a1 a2 a3 a4 z sa L m sd ns b = some (blkV a0 z L m ns b) := by
  unfold tail_Source
  have g := c.1
  have hr := block_row (rows := a2) (by have := g.1; omega) b0 b1
  rw [can_val k (by omega), dc_t c, place_yes k g z0 z1 b0 b1]
  simp only [optb, Bool.not_true, cond_false, tail_Source_j0]
  have hd := g.2.1
  have hd' := g.1
  rw [w64 (n := a0 - 1) (by omega) (by omega), decide_eq_false (show ¬ a0 - 1 = 0 by omega), cond_false, tmod_pos b0, spot_val k g ⟨z0, z1, hr.1, hr.2.1⟩ sa L m c.2.1 sd ns hk hn hr.2.2.1 hr.2.2.2]; rfl
theorem source_no (k : Nat) (sa : Bool) (L : List Int) (m : Int) (sd : Bool) (ns : List (Int × Int)) {z b : Int} (c : ¬ (CAN a0 a1 a2 a3 a4 L m ∧ 0 ≤ z ∧ z < a1 - 3 ∧ 0 ≤ b ∧ b < (a0 - 1) * a2))
    (hk : 100 ≤ k) : tail_Source k a0 a1 a2 a3 a4 z sa L m sd ns b = some (0, 0) := by
  unfold tail_Source
  rw [can_val k (by omega)]
  by_cases h : CAN a0 a1 a2 a3 a4 L m
  · rw [dc_t h, place_no k (fun x => c ⟨h, x.2⟩)]; rfl
  · rw [dc_f h]; rfl
end
/-! ### how long the tail is -/
noncomputable def srcT (a0 a1 a2 a3 a4 z : Int) (L : List Int) (m : Int) (ns : List (Int × Int)) (b : Int) : Int × Int :=
  bif dc (CAN a0 a1 a2 a3 a4 L m ∧ 0 ≤ z ∧ z < a1 - 3 ∧ 0 ≤ b ∧ b < (a0 - 1) * a2) then blkV a0 z L m ns b else (0, 0)
noncomputable def capV (a0 a1 a2 a3 a4 : Int) : Int := bif dc (GG a0 a1 a2 a3 a4) then (a0 - 1) * a2 else 0
/-- the first number without `P`, at most `c` -/
def StopR (c : Int) (P : Int → Prop) (n : Int) : Prop := 0 ≤ n ∧ n ≤ c ∧ (∀ b, 0 ≤ b → b < n → P b) ∧ (n < c → ¬ P n)
theorem stop_mono {c n m : Int} {P Q : Int → Prop} (h : StopR c P n) (h' : StopR c Q m) (hpq : ∀ b, 0 ≤ b → b < c → P b → Q b) : n ≤ m := by
  by_cases e : n ≤ m
  · exact e
  · exact absurd (hpq m h'.1 (by have := h.2.1; omega) (h.2.2.1 m h'.1 (by omega))) (h'.2.2.2 (by have := h.2.1; omega))
section
variable {a0 a1 a2 a3 a4 : Int}
theorem cap_val (k : Nat) : geom_Capacity k a0 a1 a2 a3 a4 = some (capV a0 a1 a2 a3 a4) := by
  unfold capV
  by_cases g : GG a0 a1 a2 a3 a4
  · rw [cap_yes k g, dc_t g]; rfl
  · rw [cap_no k g, dc_f g]; rfl
theorem capV_bound : 0 ≤ capV a0 a1 a2 a3 a4 ∧ capV a0 a1 a2 a3 a4 ≤ 3840 := by
  unfold capV
  by_cases g : GG a0 a1 a2 a3 a4
  · have := cap_bound g; rw [dc_t g]; simp only [cond_true]; omega
  · rw [dc_f g]; simp only [cond_false]; omega
theorem source_val (k : Nat) (sa : Bool) (L : List Int) (m : Int) (sd : Bool) (ns : List (Int × Int)) (z b : Int) (hk : ns.length + 100 ≤ k) (hn : ns.length < 1000000) :
    tail_Source k a0 a1 a2 a3 a4 z sa L m sd ns b = some (srcT a0 a1 a2 a3 a4 z L m ns b) := by
  unfold srcT
  by_cases h : CAN a0 a1 a2 a3 a4 L m ∧ 0 ≤ z ∧ z < a1 - 3 ∧ 0 ≤ b ∧ b < (a0 - 1) * a2
  · rw [source_yes k sa L m sd ns h.1 h.2.1 h.2.2.1 h.2.2.2.1 h.2.2.2.2 hk hn, dc_t h]; rfl
  · rw [source_no k sa L m sd ns h (by omega), dc_f h]; rfl
theorem length_val (k : Nat) (sa : Bool) (L : List Int) (m : Int) (sd : Bool) (ns : List (Int × Int)) (z : Int) (hk : ns.length + 5000 ≤ k) (hn : ns.length < 1000000) :
    ∃ n, tail_Length k a0 a1 a2 a3 a4 z sa L m sd ns = some n ∧ StopR (capV a0 a1 a2 a3 a4) (fun b => (srcT a0 a1 a2 a3 a4 z L m ns b).1 ≠ 0) n := by
  unfold tail_Length
  have hc := @capV_bound a0 a1 a2 a3 a4
  rcases loopTo (tail_Length_l0 (fun n => some n) k z a0 a1 a2 a3 a4 sa L m sd ns) 0 (capV a0 a1 a2 a3 a4) (fun b => (srcT a0 a1 a2 a3 a4 z L m ns b).1 ≠ 0) (some (capV a0 a1 a2 a3 a4)) (fun b => some b)
    (fun j i i0 i1 hp => by
      rw [tail_Length_l0]; unfold tail_Length_l0s
      rw [cap_val]
      simp only [optb]
      rw [decide_eq_true i1, cond_true, source_val k sa L m sd ns z i (by omega) hn]
      simp only [optb]
      rw [decide_eq_false hp, cond_false, w64 (by omega) (by omega)])
    (fun j i i0 i1 hp => by
      rw [tail_Length_l0]; unfold tail_Length_l0s
      rw [cap_val]
      simp only [optb]
      rw [decide_eq_true i1, cond_true, source_val k sa L m sd ns z i (by omega) hn]
      simp only [optb]
      rw [decide_eq_true (Classical.not_not.1 hp)]; rfl)
    (fun j => by
      rw [tail_Length_l0]; unfold tail_Length_l0s
      rw [cap_val]
      simp only [optb]
      rw [decide_eq_false (Int.lt_irrefl _)]; rfl) _ k 0 (by omega) hc.1 rfl (by omega) with ⟨h1, h2⟩ | ⟨n, n0, n1, h1, h2, h3⟩
  · exact ⟨_, h2, hc.1, by omega, h1, fun h => absurd h (by omega)⟩
  · exact ⟨n, h3, n0, by omega, h2, fun _ => h1⟩
end
/-! ### copies of a view -/
theorem take_snoc {α : Type} (l : List α) (i : Nat) (x : α) (h : l[i]? = some x) : l.take i ++ [x] = l.take (i + 1) := by
  rw [List.take_add_one, h]; rfl
theorem views_loop {R : Type} (k : Nat) (ns : List (Int × Int)) (e0 : List (Int × Int) → List (Int × Int) → Option R) : ∀ n (i j : Nat), min ns.length 40 - i = n → i ≤ ns.length → i ≤ 40 → n < j →
    corbellaw12_views_l0 e0 k ns j i (ns.take i) (ns.take i) = e0 (ns.take 40) (ns.take 40) := by
  intro n
  induction n with
  | zero =>
    intro i j h1 h2 h3 hj
    obtain ⟨j, rfl⟩ : ∃ u, j = u + 1 := ⟨j - 1, by omega⟩
    rw [corbellaw12_views_l0]; unfold corbellaw12_views_l0s
    rw [lenI_eq]
    have e : ns.take i = ns.take 40 := by
      by_cases h : i = 40
      · rw [h]
      · rw [List.take_of_length_le (by omega), List.take_of_length_le (by omega)]
    by_cases h : (i : Int) < ns.length
    · rw [decide_eq_true h, cond_true, decide_eq_false (by omega), cond_false, e]
    · rw [decide_eq_false h, cond_false, e]
  | succ n ih =>
    intro i j h1 h2 h3 hj
    obtain ⟨j, rfl⟩ : ∃ u, j = u + 1 := ⟨j - 1, by omega⟩
    rw [corbellaw12_views_l0]; unfold corbellaw12_views_l0s corbellaw12_views_j1
    have hi : i < ns.length := by omega
    have hl : (ns.take i).length + 1 ≤ 1099511627776 := by rw [List.length_take]; omega
    rw [lenI_eq, decide_eq_true (show (i : Int) < ns.length by omega), decide_eq_true (show (i : Int) < 40 by omega), decide_eq_true (show (0 : Int) ≤ i by omega), Int.toNat_natCast, List.getElem?_eq_getElem hi]
    simp only [optb, cond_true, List.length_singleton]
    rw [decide_eq_true hl, cond_true, cond_true, w64 (by omega) (by omega), take_snoc ns i _ (List.getElem?_eq_getElem hi)]
    exact ih (i + 1) j (by omega) (by omega) (by omega) (by omega)
theorem views_val (k : Nat) (hk : 100 ≤ k) (b : Bool) (L : List Int) (m : Int) (b' : Bool) (ns : List (Int × Int)) (hL : L.length ≤ 1000) :
    corbellaw12_views k b L m b' ns = some (((false, L), (m, (true, ns.take 40))), ((false, L), (m, (true, ns.take 40)))) := by
  unfold corbellaw12_views
  have h : ([] : List Int).length + L.length ≤ 1099511627776 := by simp only [List.length_nil]; omega
  rw [decide_eq_true h, cond_true, cond_true]
  have := views_loop k ns (fun a b => some (((false, (([] : List Int) ++ L)), (m, (true, a))), ((false, (([] : List Int) ++ L)), (m, (true, b))))) (min ns.length 40) 0 k (by omega) (by omega) (by omega) (by omega)
  rw [show ns.take 0 = [] from rfl] at this
  exact this
theorem speaks12 (d : Nat) : corbellaw12_speaks (d + 300) = some true := by kernel_rfl
theorem has_up {L L' : List Int} {m s r : Int} (h : ∀ q, 0 ≤ q → lat L q ≤ lat L' q) (s0 : 0 ≤ s) (x : has L m s r) : has L' m s r := ⟨x.1, by have := h s s0; have := x.2; omega⟩
theorem all_up {d z r : Int} (hd : 0 < d) {L L' : List Int} {m p l w : Int} (h : ∀ q, 0 ≤ q → lat L q ≤ lat L' q) (x : allB d z r L m p l w) : allB d z r L' m p l w :=
  fun q h1 h2 h3 => has_up h (sl_lt hd z r q).1 (x q h1 h2 h3)
theorem note_app {ns : List (Int × Int)} {x : Int × Int} {i : Nat} (h : i < ns.length) : noteR (ns ++ [x]) i = noteR ns i ∧ noteW (ns ++ [x]) i = noteW ns i := by
  unfold noteR noteW
  rw [Int.toNat_natCast, List.getD_eq_getElem?_getD, List.getD_eq_getElem?_getD, List.getElem?_append_left h]; exact ⟨rfl, rfl⟩
theorem kind_iff (d z r p : Int) (L : List Int) (m : Int) (ns : List (Int × Int)) : (srcV d z r p L m ns).1 ≠ 0 ↔ has L m (sl d z r p) r ∨ (sl d z r p = m ∧ (allB d z r L m p (-1) (d - 1) ∨ ∃ q : Nat, q < ns.length ∧ helps d z r L m p ns q)) := by
  unfold srcV
  by_cases h1 : has L m (sl d z r p) r
  · rw [dc_t h1]; exact ⟨fun _ => .inl h1, fun _ => by simp⟩
  rw [dc_f h1, cond_false]
  by_cases h2 : sl d z r p = m
  · rw [dc_f (fun x : sl d z r p ≠ m => x h2), cond_false]
    by_cases h3 : allB d z r L m p (-1) (d - 1)
    · rw [dc_t h3]; exact ⟨fun _ => .inr ⟨h2, .inl h3⟩, fun _ => by simp⟩
    · rw [dc_f h3, cond_false]
      have hl := lastI_no (helps d z r L m p ns) ns.length
      by_cases h4 : 0 ≤ lastI (helps d z r L m p ns) ns.length
      · rw [decide_eq_true h4]; exact ⟨fun _ => .inr ⟨h2, .inr (hl.1 h4)⟩, fun _ => by simp⟩
      · rw [decide_eq_false h4]
        refine ⟨fun x => absurd rfl x, fun x => ?_⟩
        rcases x with x | ⟨_, x | x⟩
        · exact absurd x h1
        · exact absurd x h3
        · exact absurd (hl.2 x) h4
  · rw [dc_t h2]
    refine ⟨fun x => absurd rfl x, fun x => ?_⟩
    rcases x with x | ⟨x, _⟩
    · exact absurd x h1
    · exact absurd x h2
theorem kind_up {d z r p : Int} (hd : 0 < d) {L L' : List Int} {m : Int} {ns ns' : List (Int × Int)} (h : ∀ q, 0 ≤ q → lat L q ≤ lat L' q) (hn : ns' = ns ∨ ∃ x, ns' = ns ++ [x])
    (x : (srcV d z r p L m ns).1 ≠ 0) : (srcV d z r p L' m ns').1 ≠ 0 := by
  rw [kind_iff] at x ⊢
  rcases x with x | ⟨e, x | ⟨q, hq, x⟩⟩
  · exact .inl (has_up h (sl_lt hd z r p).1 x)
  · exact .inr ⟨e, .inl (all_up hd h x)⟩
  · refine .inr ⟨e, .inr ⟨q, ?_, ?_⟩⟩
    · rcases hn with rfl | ⟨y, rfl⟩
      · exact hq
      · rw [List.length_append]; omega
    · have hw : noteR ns' q = noteR ns q ∧ noteW ns' q = noteW ns q := by
        rcases hn with rfl | ⟨y, rfl⟩
        · exact ⟨rfl, rfl⟩
        · exact note_app hq
      unfold helps
      rw [hw.1, hw.2]
      exact ⟨x.1, x.2.1, x.2.2.1, all_up hd h x.2.2.2⟩
theorem srcT_up {a0 a1 a2 a3 a4 z : Int} {L L' : List Int} {m : Int} {ns ns' : List (Int × Int)} (hl : L'.length = L.length) (h : ∀ q, 0 ≤ q → lat L q ≤ lat L' q) (hb : ∀ q : Int, 0 ≤ q → q < L.length → lat L' q ≤ a2 ∨ lat L' q = lat L q) (hn : ns' = ns ∨ ∃ x, ns' = ns ++ [x]) (b : Int)
    (x : (srcT a0 a1 a2 a3 a4 z L m ns b).1 ≠ 0) : (srcT a0 a1 a2 a3 a4 z L' m ns' b).1 ≠ 0 := by
  unfold srcT at x ⊢
  by_cases c : CAN a0 a1 a2 a3 a4 L m ∧ 0 ≤ z ∧ z < a1 - 3 ∧ 0 ≤ b ∧ b < (a0 - 1) * a2
  · have c' : CAN a0 a1 a2 a3 a4 L' m ∧ 0 ≤ z ∧ z < a1 - 3 ∧ 0 ≤ b ∧ b < (a0 - 1) * a2 := by
      refine ⟨⟨c.1.1, by rw [hl]; exact c.1.2.1, c.1.2.2.1, c.1.2.2.2.1, fun q q0 q1 => ?_⟩, c.2⟩
      rw [hl] at q1
      have ho := c.1.2.2.2.2 q q0 q1
      have hq := h q q0
      have hw := hb q q0 q1
      exact ⟨by have := ho.1; omega, by have := ho.2; omega⟩
    rw [dc_t c] at x
    rw [dc_t c']
    exact kind_up (by have := c.1.1.1; omega) h hn x
  · rw [dc_f c] at x
    exact absurd rfl x
theorem lat_set {L : List Int} {i : Nat} (hi : i < L.length) {v q : Int} (hq : 0 ≤ q) : lat (L.set i v) q = if q = i then v else lat L q := by
  unfold lat
  rw [List.getD_eq_getElem?_getD, List.getD_eq_getElem?_getD, List.getElem?_set]
  by_cases e : q = i
  · rw [if_pos e, if_pos (by omega), if_pos hi]; rfl
  · rw [if_neg e, if_neg (by omega)]
theorem grows_tail (k : Nat) (hk : 6000 ≤ k) {a0 a1 a2 a3 a4 z m was slot : Int} {L L' : List Int} {ns : List (Int × Int)} (hn : ns.length ≤ 40) (hl : L'.length = L.length) (h : ∀ q, 0 ≤ q → lat L q ≤ lat L' q) (hb : ∀ q : Int, 0 ≤ q → q < L.length → lat L' q ≤ a2 ∨ lat L' q = lat L q)
    (hw : StopR (capV a0 a1 a2 a3 a4) (fun b => (srcT a0 a1 a2 a3 a4 z L m ns b).1 ≠ 0) was) : corbellaw12_TailGrows_j2 (fun v => some v) k z slot was a0 a1 a2 a3 a4 false L' true ns m = some true := by
  unfold corbellaw12_TailGrows_j2
  obtain ⟨n, e, hs⟩ := length_val (a0 := a0) (a1 := a1) (a2 := a2) (a3 := a3) (a4 := a4) k false L' m true ns z (by omega) (by omega)
  obtain ⟨n', e', hs'⟩ := length_val (a0 := a0) (a1 := a1) (a2 := a2) (a3 := a3) (a4 := a4) k false L' m true (ns ++ [(slot, wrap64 (1 + Int.tmod slot 2))]) z (by rw [List.length_append, List.length_singleton]; omega) (by rw [List.length_append, List.length_singleton]; omega)
  have h1 := stop_mono hw hs (fun b _ _ x => srcT_up hl h hb (.inl rfl) b x)
  have h2 := stop_mono hs hs' (fun b _ _ x => srcT_up rfl (fun _ _ => Int.le_refl _) (fun _ _ _ => .inr rfl) (.inr ⟨_, rfl⟩) b x)
  rw [e]
  simp only [optb]
  rw [decide_eq_true (show ns.length + [(slot, wrap64 (1 + Int.tmod slot 2))].length ≤ 1099511627776 by rw [List.length_singleton]; omega), cond_true, decide_eq_true h1, cond_true, e']
  simp only
  rw [decide_eq_true h2]
theorem grows_main (a0 a1 a2 a3 a4 z s : Int) (bL : Bool) (L : List Int) (m : Int) (bn : Bool) (ns : List (Int × Int)) (hwL : ∀ q : Int, 0 ≤ q → q < L.length → -9223372036854775808 ≤ lat L q ∧ lat L q ≤ 9223372036854775807) :
    corbellaw12_TailGrows (9700 + 300) a0 a1 a2 a3 a4 z s bL L m bn ns = some true := by
  unfold corbellaw12_TailGrows
  rw [speaks12, refgood_val]
  simp only [optb, Bool.not_true, cond_false, lenI_eq]
  generalize hk : 9700 + 300 = k
  by_cases g : GG a0 a1 a2 a3 a4
  · rw [decide_eq_true g]
    simp only [Bool.not_true, cond_false]
    by_cases hl : (L.length : Int) = a0
    · rw [decide_eq_true hl]
      have hd := g.2.1
      have hd' := g.1
      simp only [Bool.not_true, corbellaw12_TailGrows_j0, cond_false, corbellaw12_TailGrows_k1]
      rw [views_val k (by omega) _ _ _ _ _ (by omega)]
      have hn : (ns.take 40).length ≤ 40 := by rw [List.length_take]; omega
      obtain ⟨n, e, hs⟩ := length_val (a0 := a0) (a1 := a1) (a2 := a2) (a3 := a3) (a4 := a4) k false L m true (ns.take 40) z (by omega) (by omega)
      simp only [optb]
      rw [e]
      simp only [optb]
      have m0 := Int.lt_tmod_of_pos s (show 0 < a0 by omega)
      have m1 := Int.tmod_lt_of_pos s (show 0 < a0 by omega)
      rw [decide_eq_false (show ¬ a0 = 0 by omega), cond_false, cond_false, w64 (n := Int.tmod s a0 + a0) (by omega) (by omega), tmod_pos (a := Int.tmod s a0 + a0) (by omega)]
      generalize hq : (Int.tmod s a0 + a0) % a0 = q
      have q0 : 0 ≤ q := by rw [← hq]; exact Int.emod_nonneg _ (by omega)
      have q1 : q < a0 := by rw [← hq]; exact Int.emod_lt_of_pos _ (by omega)
      rw [lenI_eq, decide_eq_true q0, decide_eq_true (show q < L.length by omega), lat_some q0 (by omega)]
      simp only [Bool.and_self, cond_true]
      unfold corbellaw12_TailGrows_j1
      by_cases hx : lat L q < a2
      · rw [decide_eq_true hx, cond_true, lenI_eq, decide_eq_true q0, decide_eq_true (show q < L.length by omega), lat_some q0 (by omega)]
        simp only [Bool.and_self, cond_true, optb]
        have r0 := g.2.2.2.2.2.1
        by_cases lo : -9223372036854775808 ≤ lat L q
        · have hw1 : wrap64 (lat L q + 1) = lat L q + 1 := w64 (by omega) (by omega)
          rw [hw1]
          have hv : ∀ u, 0 ≤ u → lat (L.set q.toNat (lat L q + 1)) u = if u = q then lat L q + 1 else lat L u := fun u hu => by
            rw [lat_set (by omega) hu]
            by_cases e : u = q
            · rw [if_pos e, if_pos (by omega)]
            · rw [if_neg e, if_neg (by omega)]
          refine grows_tail k (by omega) hn (List.length_set ..) (fun u hu => ?_) (fun u hu _ => ?_) hs
          · rw [hv u hu]
            by_cases e : u = q
            · rw [if_pos e, e]; omega
            · rw [if_neg e]; exact Int.le_refl _
          · rw [hv u hu]
            by_cases e : u = q
            · rw [if_pos e]; exact .inl (by omega)
            · rw [if_neg e]; exact .inr rfl
        · exact absurd (hwL q q0 (by omega)).1 lo
      · rw [decide_eq_false hx, cond_false]
        exact grows_tail k (by omega) hn rfl (fun _ _ => Int.le_refl _) (fun _ _ _ => .inr rfl) hs
    · rw [decide_eq_false hl]; rfl
  · rw [decide_eq_false g]; rfl
theorem TailGrows : TailGrowsPure := fun x0 x1 x2 _ _ h => ⟨9700 + 300, grows_main _ _ _ _ _ _ _ _ _ _ _ _ (lat_wf h.1)⟩
end Go.Proofs.Ythilffdaofaalaa.Pure
