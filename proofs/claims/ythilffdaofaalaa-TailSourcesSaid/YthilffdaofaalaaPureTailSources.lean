/- TailSources: the pure statement, over numbers and lists alone; no conditions. -/
import Derived.Test.YthilffdaofaalaaStatTailSources
set_option linter.unusedVariables false
set_option linter.unusedSimpArgs false
namespace Go.Proofs.Ythilffdaofaalaa.Pure
open Go Go.RowKit Go.Proofs.Ythilffdaofaalaa.Ev
/-! ### whole numbers -/
theorem wf_i64 {n : Int} (h : Ty.wf (.int .i64) n) : -9223372036854775808 ≤ n ∧ n ≤ 9223372036854775807 := by
  have h : (Lit.int .i64 n).wf = true := h
  simpa [Lit.wf, IntKind.min, IntKind.max, IntKind.signed, IntKind.bits] using h
theorem w64 {n : Int} (h0 : -9223372036854775808 ≤ n) (h1 : n ≤ 9223372036854775807) : wrap64 n = n := by unfold wrap64; omega
theorem tdiv_pos {a b : Int} (ha : 0 ≤ a) : Int.tdiv a b = a / b := Int.tdiv_eq_ediv_of_nonneg ha
theorem tmod_pos {a b : Int} (ha : 0 ≤ a) : Int.tmod a b = a % b := Int.tmod_eq_emod_of_nonneg ha
theorem bytesOf_append (a b : List Int) : bytesOf a ++ bytesOf b = bytesOf (a ++ b) := by
  apply ByteArray.ext
  simp [bytesOf]
theorem cond_t {α : Type} {c : Bool} {a b : α} (h : c = true) : (bif c then a else b) = a := by rw [h]; rfl
theorem cond_f {α : Type} {c : Bool} {a b : α} (h : c = false) : (bif c then a else b) = b := by rw [h]; rfl
/-! ### the shape of an array of drives -/
def GG (a0 a1 a2 a3 a4 : Int) : Prop := 3 ≤ a0 ∧ a0 ≤ 16 ∧ 5 ≤ a1 ∧ a1 ≤ 64 ∧ 4 ≤ a2 ∧ a2 ≤ 256 ∧ 1 ≤ a3 ∧ a3 ≤ a4 ∧ a4 ≤ a1
instance (a0 a1 a2 a3 a4 : Int) : Decidable (GG a0 a1 a2 a3 a4) := by unfold GG; infer_instance
theorem within_val (k : Nat) (n l h : Int) : geom_within k n l h = some (decide (l ≤ n ∧ n ≤ h)) := by
  unfold geom_within
  by_cases a : l ≤ n <;> simp [a]
theorem good_val (k : Nat) (a0 a1 a2 a3 a4 : Int) : geom_Good k a0 a1 a2 a3 a4 = some (decide (GG a0 a1 a2 a3 a4)) := by
  unfold geom_Good
  simp only [within_val, optb]
  by_cases h1 : 3 ≤ a0 ∧ a0 ≤ 16 <;> by_cases h2 : 5 ≤ a1 ∧ a1 ≤ 64 <;> by_cases h3 : 4 ≤ a2 ∧ a2 ≤ 256 <;> by_cases h4 : 1 ≤ a3 ∧ a3 ≤ a4 <;> simp only [h1, h2, h3, h4, decide_true, decide_false, cond_true, cond_false, Option.some.injEq, decide_eq_decide, and_self] <;> first | (unfold GG; omega) | (symm; rw [decide_eq_false_iff_not]; unfold GG; omega)
theorem refgood_val (k : Nat) (a0 a1 a2 a3 a4 : Int) : corbelref04_Good k a0 a1 a2 a3 a4 = some (decide (GG a0 a1 a2 a3 a4)) := by
  unfold corbelref04_Good corbelref04_Good_j0 corbelref04_Good_k0 corbelref04_Good_k1
  by_cases h1 : a0 < 3 <;> by_cases h2 : 16 < a0 <;> by_cases h3 : a1 < 5 <;> by_cases h4 : 64 < a1 <;> by_cases h5 : a2 < 4 <;> by_cases h6 : 256 < a2 <;> by_cases h7 : 0 < a3 <;> by_cases h8 : a3 ≤ a4 <;>
    simp only [h1, h2, h3, h4, h5, h6, h7, h8, decide_true, decide_false, cond_true, cond_false, Option.some.injEq, decide_eq_decide] <;> first | (unfold GG; omega) | (symm; rw [decide_eq_false_iff_not]; unfold GG; omega)
section
variable {a0 a1 a2 a3 a4 : Int}
theorem cap_bound (h : GG a0 a1 a2 a3 a4) : 8 ≤ (a0 - 1) * a2 ∧ (a0 - 1) * a2 ≤ 3840 := by
  obtain ⟨h1, h2, _, _, h5, h6, _⟩ := h
  have e1 : 2 * 4 ≤ (a0 - 1) * a2 := Int.mul_le_mul (by omega) h5 (by omega) (by omega)
  have e2 : (a0 - 1) * a2 ≤ 15 * 256 := Int.mul_le_mul (by omega) h6 (by omega) (by omega)
  omega
theorem zones_yes (k : Nat) (h : GG a0 a1 a2 a3 a4) : geom_Zones k a0 a1 a2 a3 a4 = some (a1 - 3) := by
  unfold geom_Zones
  rw [good_val, decide_eq_true h]
  obtain ⟨_, _, h1, h2, _⟩ := h
  show some _ = _
  rw [w64 (n := a1 - 2) (by omega) (by omega), w64 (by omega) (by omega)]
  congr 1; omega
theorem zones_no (k : Nat) (h : ¬ GG a0 a1 a2 a3 a4) : geom_Zones k a0 a1 a2 a3 a4 = some 0 := by
  unfold geom_Zones
  rw [good_val, decide_eq_false h]; rfl
theorem cap_yes (k : Nat) (h : GG a0 a1 a2 a3 a4) : geom_Capacity k a0 a1 a2 a3 a4 = some ((a0 - 1) * a2) := by
  unfold geom_Capacity
  rw [good_val, decide_eq_true h]
  have hb := cap_bound h
  obtain ⟨h1, h2, _⟩ := h
  show some _ = _
  rw [w64 (n := a0 - 1) (by omega) (by omega), w64 (by omega) (by omega)]
theorem cap_no (k : Nat) (h : ¬ GG a0 a1 a2 a3 a4) : geom_Capacity k a0 a1 a2 a3 a4 = some 0 := by
  unfold geom_Capacity
  rw [good_val, decide_eq_false h]; rfl
theorem there_yes (k : Nat) (h : GG a0 a1 a2 a3 a4) (z r : Int) : geom_there k a0 a1 a2 a3 a4 z r = some (decide (0 ≤ z ∧ z < a1 - 3 ∧ 0 ≤ r ∧ r < a2)) := by
  unfold geom_there
  rw [zones_yes k h]
  obtain ⟨h1, h2, h3, h4, h5, h6, _⟩ := h
  simp only [optb, within_val]
  rw [w64 (n := a1 - 3 - 1) (by omega) (by omega), w64 (n := a2 - 1) (by omega) (by omega)]
  by_cases h7 : 0 ≤ z ∧ z ≤ a1 - 3 - 1
  · rw [decide_eq_true h7]
    simp only [cond_true, Option.some.injEq, decide_eq_decide]
    omega
  · rw [decide_eq_false h7, decide_eq_false (show ¬ (0 ≤ z ∧ z < a1 - 3 ∧ 0 ≤ r ∧ r < a2) by omega)]; rfl
theorem there_no (k : Nat) (h : ¬ GG a0 a1 a2 a3 a4) (z r : Int) : geom_there k a0 a1 a2 a3 a4 z r = some false := by
  unfold geom_there
  rw [zones_no k h]
  simp only [optb, within_val]
  have : wrap64 (0 - 1) = -1 := by kernel_rfl
  rw [this, decide_eq_false (by omega)]; rfl
end
/-! ### loops over whole numbers -/
noncomputable def dc (P : Prop) : Bool := @decide P (Classical.propDecidable P)
theorem dc_t {P : Prop} (h : P) : dc P = true := @decide_eq_true P (Classical.propDecidable P) h
theorem dc_f {P : Prop} (h : ¬ P) : dc P = false := @decide_eq_false P (Classical.propDecidable P) h
theorem dc_iff {P : Prop} : dc P = true ↔ P := ⟨fun h => @of_decide_eq_true P (Classical.propDecidable P) h, dc_t⟩
theorem dc_congr {P Q : Prop} (h : P ↔ Q) : dc P = dc Q := by rw [propext h]
theorem dc_dec {P : Prop} [Decidable P] : decide P = dc P := by
  by_cases h : P
  · rw [decide_eq_true h, dc_t h]
  · rw [decide_eq_false h, dc_f h]
theorem dc_and (P Q : Prop) : (dc P && dc Q) = dc (P ∧ Q) := by
  by_cases h : P
  · by_cases h2 : Q
    · rw [dc_t h, dc_t h2, dc_t ⟨h, h2⟩]; rfl
    · rw [dc_f h2, dc_f (fun x : P ∧ Q => h2 x.2), Bool.and_false]
  · rw [dc_f h, dc_f (fun x : P ∧ Q => h x.1)]; rfl
/-- up to the first number without `P` -/
theorem loopUp {R : Type} (f : Nat → Int → Option R) (lo to : Int) (P : Int → Prop) (yes : Option R) (no : Int → Option R)
    (hs : ∀ j i, lo ≤ i → i < to → P i → f (j + 1) i = f j (i + 1)) (hn : ∀ j i, lo ≤ i → i < to → ¬ P i → f (j + 1) i = no i) (he : ∀ j i, lo ≤ i → to ≤ i → f (j + 1) i = yes) :
    ∀ n j i, lo ≤ i → (to - i).toNat = n → n < j → ((∀ q, i ≤ q → q < to → P q) ∧ f j i = yes) ∨ (∃ q, i ≤ q ∧ q < to ∧ ¬ P q ∧ (∀ u, i ≤ u → u < q → P u) ∧ f j i = no q) := by
  intro n
  induction n with
  | zero =>
    intro j i hl h hj
    obtain ⟨j, rfl⟩ : ∃ u, j = u + 1 := ⟨j - 1, by omega⟩
    exact .inl ⟨fun q h1 h2 => absurd h2 (by omega), he j i hl (by omega)⟩
  | succ n ih =>
    intro j i hl h hj
    obtain ⟨j, rfl⟩ : ∃ u, j = u + 1 := ⟨j - 1, by omega⟩
    by_cases hp : P i
    · rw [hs j i hl (by omega) hp]
      rcases ih j (i + 1) (by omega) (by omega) (by omega) with ⟨h1, h2⟩ | ⟨q, h1, h2, h3, h4, h5⟩
      · refine .inl ⟨fun q h3 h4 => ?_, h2⟩
        by_cases e : q = i
        · rw [e]; exact hp
        · exact h1 q (by omega) h4
      · refine .inr ⟨q, by omega, h2, h3, fun u h6 h7 => ?_, h5⟩
        by_cases e : u = i
        · rw [e]; exact hp
        · exact h4 u (by omega) h7
    · exact .inr ⟨i, by omega, by omega, hp, fun u h1 h2 => absurd h2 (by omega), hn j i hl (by omega) hp⟩
/-- the same, for a loop that ends where it should -/
theorem loopTo {R : Type} (f : Nat → Int → Option R) (lo to : Int) (P : Int → Prop) (yes : Option R) (no : Int → Option R)
    (hs : ∀ j i, lo ≤ i → i < to → P i → f (j + 1) i = f j (i + 1)) (hn : ∀ j i, lo ≤ i → i < to → ¬ P i → f (j + 1) i = no i) (he : ∀ j, f (j + 1) to = yes) :
    ∀ n j i, lo ≤ i → i ≤ to → (to - i).toNat = n → n < j → ((∀ q, i ≤ q → q < to → P q) ∧ f j i = yes) ∨ (∃ q, i ≤ q ∧ q < to ∧ ¬ P q ∧ (∀ u, i ≤ u → u < q → P u) ∧ f j i = no q) := by
  intro n
  induction n with
  | zero =>
    intro j i hl hle h hj
    obtain ⟨j, rfl⟩ : ∃ u, j = u + 1 := ⟨j - 1, by omega⟩
    exact .inl ⟨fun q h1 h2 => absurd h2 (by omega), by rw [show i = to by omega]; exact he j⟩
  | succ n ih =>
    intro j i hl hle h hj
    obtain ⟨j, rfl⟩ : ∃ u, j = u + 1 := ⟨j - 1, by omega⟩
    by_cases hp : P i
    · rw [hs j i hl (by omega) hp]
      rcases ih j (i + 1) (by omega) (by omega) (by omega) (by omega) with ⟨h1, h2⟩ | ⟨q, h1, h2, h3, h4, h5⟩
      · refine .inl ⟨fun q h3 h4 => ?_, h2⟩
        by_cases e : q = i
        · rw [e]; exact hp
        · exact h1 q (by omega) h4
      · refine .inr ⟨q, by omega, h2, h3, fun u h6 h7 => ?_, h5⟩
        by_cases e : u = i
        · rw [e]; exact hp
        · exact h4 u (by omega) h7
    · exact .inr ⟨i, by omega, by omega, hp, fun u h1 h2 => absurd h2 (by omega), hn j i hl (by omega) hp⟩
theorem loopAll {R : Type} (f : Nat → Int → Option R) (lo to : Int) (P : Int → Prop) (yes no : Option R)
    (hs : ∀ j i, lo ≤ i → i < to → P i → f (j + 1) i = f j (i + 1)) (hn : ∀ j i, lo ≤ i → i < to → ¬ P i → f (j + 1) i = no) (he : ∀ j i, lo ≤ i → to ≤ i → f (j + 1) i = yes)
    (j : Nat) (i : Int) (hl : lo ≤ i) (hj : (to - i).toNat < j) : f j i = bif dc (∀ q, i ≤ q → q < to → P q) then yes else no := by
  rcases loopUp f lo to P yes (fun _ => no) hs hn he _ j i hl rfl hj with ⟨h1, h2⟩ | ⟨q, h1, h2, h3, _, h5⟩
  · rw [dc_t h1, h2]; rfl
  · rw [dc_f (fun h => h3 (h q h1 h2)), h5]; rfl
/-- the last number below `n` with `P` -/
noncomputable def lastI (P : Int → Prop) : Nat → Int
  | 0 => -1
  | n + 1 => bif dc (P n) then n else lastI P n
theorem lastI_lt (P : Int → Prop) (n : Nat) : -1 ≤ lastI P n ∧ lastI P n < n := by
  induction n with
  | zero => exact ⟨Int.le_refl (-1), by show (-1 : Int) < 0; decide⟩
  | succ n ih =>
    unfold lastI
    cases dc (P n) with
    | true => rw [cond_true]; omega
    | false => rw [cond_false]; omega
theorem lastI_yes (P : Int → Prop) (n : Nat) (h : 0 ≤ lastI P n) : P (lastI P n) := by
  induction n with
  | zero => exact absurd (show (0 : Int) ≤ -1 from h) (by decide)
  | succ n ih =>
    unfold lastI at h ⊢
    by_cases hp : P n
    · rw [dc_t hp]; exact hp
    · rw [dc_f hp] at h ⊢; exact ih h
theorem lastI_no (P : Int → Prop) (n : Nat) : 0 ≤ lastI P n ↔ ∃ q : Nat, q < n ∧ P q := by
  induction n with
  | zero => exact ⟨fun h => absurd (show (0 : Int) ≤ -1 from h) (by decide), fun ⟨q, h, _⟩ => absurd h (by omega)⟩
  | succ n ih =>
    unfold lastI
    by_cases hp : P n
    · rw [dc_t hp]; exact ⟨fun _ => ⟨n, by omega, hp⟩, fun _ => by rw [cond_true]; omega⟩
    · rw [dc_f hp, cond_false, ih]
      refine ⟨fun ⟨q, h1, h2⟩ => ⟨q, by omega, h2⟩, fun ⟨q, h1, h2⟩ => ⟨q, ?_, h2⟩⟩
      by_cases e : q = n
      · rw [e] at h2; exact absurd h2 hp
      · omega
theorem lastI_congr {P Q : Int → Prop} (n : Nat) (h : ∀ q : Nat, q < n → (P q ↔ Q q)) : lastI P n = lastI Q n := by
  induction n with
  | zero => rfl
  | succ n ih => unfold lastI; rw [dc_congr (h n (by omega)), ih (fun q hq => h q (by omega))]
theorem loopDown {R : Type} (f : Nat → Int → Option R) (N : Nat) (P : Int → Prop) (yes : Int → Option R) (no : Option R)
    (hy : ∀ j (i : Nat), i < N → P i → f (j + 1) i = yes i) (hn : ∀ j (i : Nat), i < N → ¬ P i → f (j + 1) i = f j (i - 1)) (he : ∀ j, f (j + 1) (-1) = no) :
    ∀ n j, n ≤ N → n < j → f j (n - 1) = bif decide (0 ≤ lastI P n) then yes (lastI P n) else no := by
  intro n
  induction n with
  | zero =>
    intro j _ hj
    obtain ⟨j, rfl⟩ : ∃ u, j = u + 1 := ⟨j - 1, by omega⟩
    exact he j
  | succ n ih =>
    intro j hN hj
    obtain ⟨j, rfl⟩ : ∃ u, j = u + 1 := ⟨j - 1, by omega⟩
    rw [show ((n + 1 : Nat) : Int) - 1 = (n : Int) by omega]
    unfold lastI
    by_cases hp : P n
    · rw [hy j n (by omega) hp, dc_t hp, cond_true, decide_eq_true (by omega)]; rfl
    · rw [hn j n (by omega) hp, dc_f hp, cond_false]; exact ih j (by omega) (by omega)
/-- a state that is carried along -/
def foldI {S : Type} (g : Int → S → S) : Nat → Int → S → S
  | 0, _, s => s
  | n + 1, i, s => foldI g n (i + 1) (g i s)
theorem loopFold {R S : Type} (f : Nat → S → Int → Option R) (lo to : Int) (g : Int → S → S) (e : S → Option R)
    (hs : ∀ j s i, lo ≤ i → i < to → f (j + 1) s i = f j (g i s) (i + 1)) (he : ∀ j s i, lo ≤ i → to ≤ i → f (j + 1) s i = e s) :
    ∀ n j s i, lo ≤ i → (to - i).toNat = n → n < j → f j s i = e (foldI g n i s) := by
  intro n
  induction n with
  | zero =>
    intro j s i hl h hj
    obtain ⟨j, rfl⟩ : ∃ u, j = u + 1 := ⟨j - 1, by omega⟩
    exact he j s i hl (by omega)
  | succ n ih =>
    intro j s i hl h hj
    obtain ⟨j, rfl⟩ : ∃ u, j = u + 1 := ⟨j - 1, by omega⟩
    rw [hs j s i hl (by omega), ih j _ _ (by omega) (by omega) (by omega)]; rfl
theorem foldI_and (P : Int → Prop) : ∀ n i a, foldI (fun i a => a && dc (P i)) n i a = (a && dc (∀ q, i ≤ q → q < i + (n : Nat) → P q)) := by
  intro n
  induction n with
  | zero => intro i a; rw [dc_t (fun q h1 h2 => absurd h2 (by omega)), Bool.and_true]; rfl
  | succ n ih =>
    intro i a
    show foldI _ n (i + 1) (a && dc (P i)) = _
    rw [ih, Bool.and_assoc, dc_and]
    congr 1
    refine dc_congr ⟨fun ⟨h, h'⟩ q h1 h2 => ?_, fun h => ⟨h i (by omega) (by omega), fun q h1 h2 => h q (by omega) (by omega)⟩⟩
    by_cases e : q = i
    · rw [e]; exact h
    · exact h' q (by omega) (by omega)
theorem foldI_snoc {S : Type} (g : Int → S → S) : ∀ n i s, foldI g (n + 1) i s = g (i + (n : Nat)) (foldI g n i s) := by
  intro n
  induction n with
  | zero => intro i s; show g i s = g (i + 0) s; rw [Int.add_zero]
  | succ n ih =>
    intro i s
    show foldI g (n + 1) (i + 1) (g i s) = _
    rw [ih]
    show g (i + 1 + (n : Nat)) _ = g (i + ((n + 1 : Nat) : Int)) (foldI g n (i + 1) (g i s))
    congr 1; omega
theorem foldI_last (P : Int → Prop) (n : Nat) : foldI (fun i a => bif dc (P i) then i else a) n 0 (-1) = lastI P n := by
  induction n with
  | zero => rfl
  | succ n ih => rw [foldI_snoc, ih]; show _ = (bif dc (P n) then (n : Int) else lastI P n); rw [Int.zero_add]
/-! ### reading a list -/
def lat (L : List Int) (q : Int) : Int := L.getD q.toNat 0
theorem lat_some {L : List Int} {q : Int} (h0 : 0 ≤ q) (h1 : q < L.length) : L[q.toNat]? = some (lat L q) := by
  have h : q.toNat < L.length := by omega
  unfold lat
  rw [List.getD_eq_getElem?_getD, List.getElem?_eq_getElem h]; rfl
theorem lat_wf {L : List Int} {b : Bool} (h : Ty.wf (.sl (.int .i64)) (b, L)) (q : Int) (h0 : 0 ≤ q) (h1 : q < L.length) : -9223372036854775808 ≤ lat L q ∧ lat L q ≤ 9223372036854775807 := by
  have hm : lat L q ∈ L := by
    have h : q.toNat < L.length := by omega
    unfold lat
    rw [List.getD_eq_getElem?_getD, List.getElem?_eq_getElem h]; exact List.getElem_mem h
  exact wf_i64 (h.2.2 _ hm)
/-! ### where a block lies -/
def sl (d z r p : Int) : Int := ((z + r) % d + 1 + p) % d
theorem sl_lt {d : Int} (hd : 0 < d) (z r p : Int) : 0 ≤ sl d z r p ∧ sl d z r p < d := ⟨Int.emod_nonneg _ (by omega), Int.emod_lt_of_pos _ hd⟩
section
variable {a0 a1 a2 a3 a4 : Int}
theorem par_yes (k : Nat) (h : GG a0 a1 a2 a3 a4) {z r : Int} (t : 0 ≤ z ∧ z < a1 - 3 ∧ 0 ≤ r ∧ r < a2) : geom_Parity k a0 a1 a2 a3 a4 z r = some ((z + r) % a0) := by
  unfold geom_Parity
  rw [there_yes k h, decide_eq_true t]
  obtain ⟨h1, h2, h3, h4, h5, h6, _⟩ := h
  simp only [optb, Bool.not_true, cond_false]
  rw [decide_eq_false (show ¬ a0 = 0 by omega), cond_false, w64 (by omega) (by omega), tmod_pos (by omega)]
theorem block_row {d b rows : Int} (hd : 3 ≤ d) (hb : 0 ≤ b) (hc : b < (d - 1) * rows) : 0 ≤ b / (d - 1) ∧ b / (d - 1) < rows ∧ 0 ≤ b % (d - 1) ∧ b % (d - 1) < d - 1 := by
  refine ⟨Int.ediv_nonneg hb (by omega), Int.ediv_lt_of_lt_mul (by omega) ?_, Int.emod_nonneg _ (by omega), Int.emod_lt_of_pos _ (by omega)⟩
  rw [Int.mul_comm]; exact hc
theorem slot_par (k : Nat) (h : GG a0 a1 a2 a3 a4) {z r : Int} (t : 0 ≤ z ∧ z < a1 - 3 ∧ 0 ≤ r ∧ r < a2) {p : Int} (p0 : -1 ≤ p) (p1 : p < 1000) : Int.tmod (wrap64 (wrap64 ((z + r) % a0 + 1) + p)) a0 = sl a0 z r p := by
  obtain ⟨h1, h2, h3, h4, h5, h6, _⟩ := h
  have e0 := Int.emod_nonneg (z + r) (show a0 ≠ 0 by omega)
  have e1 := Int.emod_lt_of_pos (z + r) (show 0 < a0 by omega)
  rw [w64 (n := (z + r) % a0 + 1) (by omega) (by omega), w64 (by omega) (by omega), tmod_pos (by omega)]; rfl
end
section
variable {a0 a1 a2 a3 a4 : Int}
theorem place_yes (k : Nat) (h : GG a0 a1 a2 a3 a4) {z b : Int} (z0 : 0 ≤ z) (z1 : z < a1 - 3) (b0 : 0 ≤ b) (b1 : b < (a0 - 1) * a2) :
    geom_Place k a0 a1 a2 a3 a4 z b = some (b / (a0 - 1), sl a0 z (b / (a0 - 1)) (b % (a0 - 1)), true) := by
  unfold geom_Place
  have hc := cap_bound h
  have hr := block_row (rows := a2) (by obtain ⟨h1, _⟩ := h; omega) b0 b1
  have h' := h
  obtain ⟨h1, h2, h3, h4, h5, h6, _⟩ := h'
  rw [there_yes k h, decide_eq_true (show 0 ≤ z ∧ z < a1 - 3 ∧ 0 ≤ (0 : Int) ∧ 0 < a2 by omega), cap_yes k h]
  simp only [optb, Bool.not_true, cond_false, within_val]
  rw [w64 (n := (a0 - 1) * a2 - 1) (by omega) (by omega), decide_eq_true (show 0 ≤ b ∧ b ≤ (a0 - 1) * a2 - 1 by omega)]
  simp only [Bool.not_true, geom_Place_j0, geom_Place_k1, geom_Place_j1, cond_false, optb]
  have hq : b / (a0 - 1) ≤ 300 := by omega
  rw [w64 (n := a0 - 1) (by omega) (by omega), decide_eq_false (show ¬ a0 - 1 = 0 by omega)]
  simp only [cond_false]
  rw [tdiv_pos b0, tmod_pos b0, w64 (n := b / (a0 - 1)) (by omega) (by omega), par_yes k h ⟨z0, z1, hr.1, hr.2.1⟩]
  simp only [optb]
  rw [decide_eq_false (show ¬ a0 = 0 by omega), cond_false, slot_par k h ⟨z0, z1, hr.1, hr.2.1⟩ (by omega) (by omega)]
theorem place_no (k : Nat) {z b : Int} (h : ¬ (GG a0 a1 a2 a3 a4 ∧ 0 ≤ z ∧ z < a1 - 3 ∧ 0 ≤ b ∧ b < (a0 - 1) * a2)) :
    geom_Place k a0 a1 a2 a3 a4 z b = some (0, 0, false) := by
  unfold geom_Place
  by_cases g : GG a0 a1 a2 a3 a4
  · have hc := cap_bound g
    have g' := g
    obtain ⟨h1, h2, h3, h4, h5, h6, _⟩ := g'
    rw [there_yes k g, cap_yes k g]
    simp only [optb, within_val]
    rw [w64 (n := (a0 - 1) * a2 - 1) (by omega) (by omega)]
    by_cases t : 0 ≤ z ∧ z < a1 - 3
    · rw [decide_eq_true (show 0 ≤ z ∧ z < a1 - 3 ∧ 0 ≤ (0 : Int) ∧ 0 < a2 by omega), decide_eq_false (show ¬ (0 ≤ b ∧ b ≤ (a0 - 1) * a2 - 1) from fun x => h ⟨g, t.1, t.2, x.1, by omega⟩)]; rfl
    · rw [decide_eq_false (show ¬ (0 ≤ z ∧ z < a1 - 3 ∧ 0 ≤ (0 : Int) ∧ 0 < a2) by omega)]; rfl
  · rw [there_no k g]; rfl
end
/-! ### what a view may hold -/
def okx (rows x : Int) : Prop := 0 ≤ x ∧ x ≤ rows
def CAN (a0 a1 a2 a3 a4 : Int) (L : List Int) (m : Int) : Prop := GG a0 a1 a2 a3 a4 ∧ (L.length : Int) = a0 ∧ -1 ≤ m ∧ m < a0 ∧ ∀ q : Int, 0 ≤ q → q < L.length → okx a2 (lat L q)
/-! ### what the tail says -/
def has (L : List Int) (m s r : Int) : Prop := s ≠ m ∧ r < lat L s
/-- every slot of a run of places but one's own is there -/
def allB (d z r : Int) (L : List Int) (m p least wide : Int) : Prop := ∀ q, least ≤ q → q < wide → q ≠ p → has L m (sl d z r q) r
section
variable {a0 a1 a2 a3 a4 : Int}
theorem can_val (k : Nat) (hk : 100 ≤ k) (va : Bool) (L : List Int) (m : Int) (vd : Bool) (ve : List (Int × Int)) :
    tail_View_can k va L m vd ve a0 a1 a2 a3 a4 = some (dc (CAN a0 a1 a2 a3 a4 L m)) := by
  unfold tail_View_can
  rw [good_val]
  simp only [optb, lenI_eq]
  by_cases g : GG a0 a1 a2 a3 a4
  · rw [decide_eq_true g, cond_true]
    by_cases h1 : (L.length : Int) = a0
    · rw [decide_eq_true h1, cond_true]
      by_cases h2 : -1 ≤ m
      · rw [decide_eq_true h2, cond_true]
        by_cases h3 : m < a0
        · rw [decide_eq_true h3, cond_true]
          have hd : a0 ≤ 16 := g.2.1
          rcases loopUp (tail_View_can_i92_2_l0 (fun v => some (!(decide ((0 : Int) ≤ v)))) (some true) k L L.length a2) 0 L.length (fun q => okx a2 (lat L q)) (some true) (fun _ => some false)
            (fun j i i0 i1 hp => by
              rw [tail_View_can_i92_2_l0]; unfold tail_View_can_i92_2_l0s tail_View_can_i92_2_j1
              rw [decide_eq_true i1, decide_eq_true i0, cond_true, cond_true, lat_some i0 i1]
              simp only [optb]
              rw [decide_eq_false (show ¬ lat L i < 0 from fun x => by have := hp.1; omega), decide_eq_false (show ¬ a2 < lat L i from fun x => by have := hp.2; omega)]
              simp only [cond_false]
              rw [w64 (by omega) (by omega)])
            (fun j i i0 i1 hp => by
              rw [tail_View_can_i92_2_l0]; unfold tail_View_can_i92_2_l0s tail_View_can_i92_2_j1
              rw [decide_eq_true i1, decide_eq_true i0, cond_true, cond_true, lat_some i0 i1]
              simp only [optb]
              by_cases hx : lat L i < 0
              · rw [decide_eq_true hx, cond_true, cond_true, decide_eq_true i0]; rfl
              · rw [decide_eq_false hx, cond_false, decide_eq_true (show a2 < lat L i from by have : ¬ (0 ≤ lat L i ∧ lat L i ≤ a2) := hp; omega), cond_true, decide_eq_true i0]; rfl)
            (fun j i i0 i1 => by
              rw [tail_View_can_i92_2_l0]; unfold tail_View_can_i92_2_l0s
              rw [decide_eq_false (by omega), cond_false]) _ k 0 (by omega) rfl (by omega) with ⟨h4, h5⟩ | ⟨q, q0, q1, h4, _, h5⟩
          · rw [h5, dc_t ⟨g, h1, h2, h3, h4⟩]
          · rw [h5, dc_f (fun x => h4 (x.2.2.2.2 q q0 q1))]
        · rw [decide_eq_false h3, dc_f (fun x => h3 x.2.2.2.1)]; rfl
      · rw [decide_eq_false h2, dc_f (fun x => h2 x.2.2.1)]; rfl
    · rw [decide_eq_false h1, dc_f (fun x => h1 x.2.1)]; rfl
  · rw [decide_eq_false g, dc_f (fun x => g x.1)]; rfl
theorem slot_val (k : Nat) (g : GG a0 a1 a2 a3 a4) {z r : Int} (t : 0 ≤ z ∧ z < a1 - 3 ∧ 0 ≤ r ∧ r < a2) {q : Int} (p0 : -1 ≤ q) (p1 : q < 1000) (sa : Bool) (L : List Int) (m : Int) (sd : Bool) (ns : List (Int × Int)) (sm : Int) :
    tail_spot_slot k sa L m sd ns a0 a1 a2 a3 a4 z r sm q = some (sl a0 z r q) := by
  unfold tail_spot_slot tail_spot_slot_j0
  rw [par_yes k g t]
  simp only [optb]
  rw [decide_eq_false (show ¬ a0 = 0 by have := g.1; omega), cond_false, slot_par k g t p0 p1]
theorem has_val (k : Nat) (va : Bool) (L : List Int) (m : Int) (vd : Bool) (ns : List (Int × Int)) {s r : Int} (s0 : 0 ≤ s) (s1 : s < L.length) :
    tail_View_has k va L m vd ns s r = some (dc (has L m s r)) := by
  unfold tail_View_has
  by_cases h : s = m
  · rw [decide_eq_true h, dc_f (fun x => x.1 h)]; rfl
  · rw [decide_eq_false h, decide_eq_true s0]
    simp only [Bool.not_false, cond_true]
    rw [lat_some s0 s1]
    simp only [optb]
    rw [dc_dec]; exact congrArg some (dc_congr ⟨fun x => ⟨h, x⟩, fun x => x.2⟩)
theorem others_val (k : Nat) (hk : 100 ≤ k) (g : GG a0 a1 a2 a3 a4) {z r : Int} (t : 0 ≤ z ∧ z < a1 - 3 ∧ 0 ≤ r ∧ r < a2) (sa : Bool) (L : List Int) (m : Int) (hL : (L.length : Int) = a0) (sd : Bool) (ns : List (Int × Int)) (p : Int) {least wide : Int} (l0 : -1 ≤ least) (w1 : wide < a0) :
    tail_spot_others k sa L m sd ns a0 a1 a2 a3 a4 z r p least wide = some (dc (allB a0 z r L m p least wide)) := by
  unfold tail_spot_others
  have hd := g.2.1
  rw [loopAll (tail_spot_others_l0 (fun v => some v) (some true) k wide sa L m sd ns a0 a1 a2 a3 a4 z r p) (-1) wide (fun q => q ≠ p → has L m (sl a0 z r q) r) (some true) (some false)
    (fun j i i0 i1 hp => by
      rw [tail_spot_others_l0]; unfold tail_spot_others_l0s tail_spot_others_j1 tail_spot_others_k1 tail_spot_others_j2
      rw [decide_eq_true i1, cond_true]
      by_cases e : i = p
      · rw [decide_eq_true e, Bool.not_true, cond_false, cond_false, w64 (by omega) (by omega)]
      · rw [decide_eq_false e, Bool.not_false, cond_true, slot_val k g t (by omega) (by omega)]
        have hs := sl_lt (show 0 < a0 by have := g.1; omega) z r i
        simp only [optb]
        rw [has_val k sa L m sd ns hs.1 (by omega), dc_t (hp e)]
        simp only [Bool.not_true, cond_false]
        rw [w64 (by omega) (by omega)])
    (fun j i i0 i1 hp => by
      rw [tail_spot_others_l0]; unfold tail_spot_others_l0s tail_spot_others_j1
      rw [decide_eq_true i1, cond_true]
      by_cases e : i = p
      · exact absurd (fun x => absurd e x) hp
      · rw [decide_eq_false e, Bool.not_false, cond_true, slot_val k g t (by omega) (by omega)]
        have hs := sl_lt (show 0 < a0 by have := g.1; omega) z r i
        simp only [optb]
        rw [has_val k sa L m sd ns hs.1 (by omega), dc_f (fun x => hp (fun _ => x))]; rfl)
    (fun j i i0 i1 => by
      rw [tail_spot_others_l0]; unfold tail_spot_others_l0s
      rw [decide_eq_false (by omega), cond_false]) k least l0 (by omega)]
  unfold allB
  cases dc _ <;> rfl
def noteR (ns : List (Int × Int)) (i : Int) : Int := (ns.getD i.toNat (0, 0)).1
def noteW (ns : List (Int × Int)) (i : Int) : Int := (ns.getD i.toNat (0, 0)).2
theorem note_some {ns : List (Int × Int)} (i : Nat) (h : i < ns.length) : ns[((i : Int)).toNat]? = some (noteR ns i, noteW ns i) := by
  unfold noteR noteW
  rw [Int.toNat_natCast, List.getD_eq_getElem?_getD, List.getElem?_eq_getElem h]; rfl
/-- a note that helps -/
def helps (d z r : Int) (L : List Int) (m p : Int) (ns : List (Int × Int)) (i : Int) : Prop := noteR ns i = r ∧ p < noteW ns i ∧ noteW ns i ≤ d - 1 ∧ allB d z r L m p 0 (noteW ns i)
noncomputable def srcV (d z r p : Int) (L : List Int) (m : Int) (ns : List (Int × Int)) : Int × Int :=
  bif dc (has L m (sl d z r p) r) then (1, 0) else bif dc (sl d z r p ≠ m) then (0, 0) else bif dc (allB d z r L m p (-1) (d - 1)) then (2, 0)
  else bif decide (0 ≤ lastI (helps d z r L m p ns) ns.length) then (3, lastI (helps d z r L m p ns) ns.length) else (0, 0)
theorem spot_val (k : Nat) (g : GG a0 a1 a2 a3 a4) {z r : Int} (t : 0 ≤ z ∧ z < a1 - 3 ∧ 0 ≤ r ∧ r < a2) (sa : Bool) (L : List Int) (m : Int) (hL : (L.length : Int) = a0) (sd : Bool) (ns : List (Int × Int)) (hk : ns.length + 100 ≤ k) (hn : ns.length < 1000000) {p : Int} (p0 : 0 ≤ p) (p1 : p < a0 - 1) :
    tail_spot_source k sa L m sd ns a0 a1 a2 a3 a4 z r p = some (srcV a0 z r p L m ns) := by
  unfold tail_spot_source
  have hd := g.2.1
  have hs := sl_lt (show 0 < a0 by have := g.1; omega) z r p
  rw [slot_val k g t (by omega) (by omega)]
  simp only [optb]
  rw [has_val k sa L m sd ns hs.1 (by omega)]
  simp only [optb]
  unfold srcV
  by_cases h1 : has L m (sl a0 z r p) r
  · rw [dc_t h1]; rfl
  rw [dc_f h1]
  simp only [cond_false]
  by_cases h2 : sl a0 z r p = m
  · rw [decide_eq_true h2, dc_f (fun x : sl a0 z r p ≠ m => x h2), w64 (n := a0 - 1) (by omega) (by omega), others_val k (by omega) g t sa L m hL sd ns p (by omega) (by omega)]
    simp only [optb, Bool.not_true, cond_false]
    by_cases h3 : allB a0 z r L m p (-1) (a0 - 1)
    · rw [dc_t h3]; rfl
    rw [dc_f h3]
    simp only [cond_false, tail_spot_source_j0, lenI_eq]
    rw [w64 (by omega) (by omega)]
    rw [loopDown (tail_spot_source_l1 (fun v w => some (v, w)) (some (0, 0)) k (a0 - 1) sa L m sd ns a0 a1 a2 a3 a4 z r p) ns.length (helps a0 z r L m p ns) (fun i => some (3, i)) (some (0, 0))
      (fun j i hi hp => by
        rw [tail_spot_source_l1]; unfold tail_spot_source_l1s tail_spot_source_j2 tail_spot_source_k0
        rw [decide_eq_true (show (0 : Int) ≤ i by omega), cond_true, cond_true, note_some i hi]
        simp only [optb]
        rw [decide_eq_true hp.1, decide_eq_true hp.2.1, decide_eq_true hp.2.2.1]
        simp only [cond_true]
        rw [others_val k (by omega) g t sa L m hL sd ns p (by omega) (by have := hp.2.2.1; omega)]
        simp only [optb]
        rw [dc_t hp.2.2.2]; rfl)
      (fun j i hi hp => by
        rw [tail_spot_source_l1]; unfold tail_spot_source_l1s tail_spot_source_j2 tail_spot_source_k1 tail_spot_source_j3
        rw [decide_eq_true (show (0 : Int) ≤ i by omega), cond_true, cond_true, note_some i hi]
        simp only [optb]
        have hw : wrap64 ((i : Int) - 1) = (i : Int) - 1 := w64 (by omega) (by omega)
        by_cases e1 : noteR ns i = r
        · by_cases e2 : p < noteW ns i
          · by_cases e3 : noteW ns i ≤ a0 - 1
            · rw [decide_eq_true e1, decide_eq_true e2, decide_eq_true e3]
              simp only [cond_true]
              rw [others_val k (by omega) g t sa L m hL sd ns p (by omega) (by omega)]
              simp only [optb]
              rw [dc_f (fun x => hp ⟨e1, e2, e3, x⟩), cond_false, hw]
            · rw [decide_eq_true e1, decide_eq_true e2, decide_eq_false e3]
              simp only [cond_true, cond_false, hw]
          · rw [decide_eq_true e1, decide_eq_false e2]
            simp only [cond_true, cond_false, hw]
        · rw [decide_eq_false e1]
          simp only [cond_false, hw])
      (fun j => by
        rw [tail_spot_source_l1]; unfold tail_spot_source_l1s
        rfl) ns.length k (Nat.le_refl _) (by omega)]
    cases decide (0 ≤ lastI (helps a0 z r L m p ns) ns.length) <;> rfl
  · rw [decide_eq_false h2, dc_t h2]; rfl
noncomputable def blkV (d z : Int) (L : List Int) (m : Int) (ns : List (Int × Int)) (b : Int) : Int × Int := srcV d z (b / (d - 1)) (b % (d - 1)) L m ns
theorem source_yes (k : Nat) (sa : Bool) (L : List Int) (m : Int) (sd : Bool) (ns : List (Int × Int)) (c : CAN a0 a1 a2 a3 a4 L m) {z b : Int} (z0 : 0 ≤ z) (z1 : z < a1 - 3) (b0 : 0 ≤ b) (b1 : b < (a0 - 1) * a2)
    (hk : ns.length + 100 ≤ k) (hn : ns.length < 1000000) : tail_Source k a0 a1 a2 a3 a4 z sa L m sd ns b = some (blkV a0 z L m ns b) := by
  unfold tail_Source
  have g := c.1
  have hr := block_row (rows := a2) (by have := g.1; omega) b0 b1
  rw [can_val k (by omega), dc_t c, place_yes k g z0 z1 b0 b1]
  simp only [optb, Bool.not_true, cond_false, tail_Source_j0]
  have hd := g.2.1
  have hd' := g.1
  rw [w64 (n := a0 - 1) (by omega) (by omega), decide_eq_false (show ¬ a0 - 1 = 0 by omega), cond_false, tmod_pos b0, spot_val k g ⟨z0, z1, hr.1, hr.2.1⟩ sa L m c.2.1 sd ns hk hn hr.2.2.1 hr.2.2.2]; rfl
theorem source_no (k : Nat) (sa : Bool) (L : List Int) (m : Int) (sd : Bool) (ns : List (Int × Int)) {z b : Int} (c : ¬ (CAN a0 a1 a2 a3 a4 L m ∧ 0 ≤ z ∧ z < a1 - 3 ∧ 0 ≤ b ∧ b < (a0 - 1) * a2))
    (hk : 100 ≤ k) : tail_Source k a0 a1 a2 a3 a4 z sa L m sd ns b = some (0, 0) := by
  unfold tail_Source
  rw [can_val k (by omega)]
  by_cases h : CAN a0 a1 a2 a3 a4 L m
  · rw [dc_t h, place_no k (fun x => c ⟨h, x.2⟩)]; rfl
  · rw [dc_f h]; rfl
end
/-! ### how long the tail is -/
noncomputable def srcT (a0 a1 a2 a3 a4 z : Int) (L : List Int) (m : Int) (ns : List (Int × Int)) (b : Int) : Int × Int :=
  bif dc (CAN a0 a1 a2 a3 a4 L m ∧ 0 ≤ z ∧ z < a1 - 3 ∧ 0 ≤ b ∧ b < (a0 - 1) * a2) then blkV a0 z L m ns b else (0, 0)
noncomputable def capV (a0 a1 a2 a3 a4 : Int) : Int := bif dc (GG a0 a1 a2 a3 a4) then (a0 - 1) * a2 else 0
/-- the first number without `P`, at most `c` -/
def StopR (c : Int) (P : Int → Prop) (n : Int) : Prop := 0 ≤ n ∧ n ≤ c ∧ (∀ b, 0 ≤ b → b < n → P b) ∧ (n < c → ¬ P n)
theorem stop_mono {c n m : Int} {P Q : Int → Prop} (h : StopR c P n) (h' : StopR c Q m) (hpq : ∀ b, 0 ≤ b → b < c → P b → Q b) : n ≤ m := by
  by_cases e : n ≤ m
  · exact e
  · exact absurd (hpq m h'.1 (by have := h.2.1; omega) (h.2.2.1 m h'.1 (by omega))) (h'.2.2.2 (by have := h.2.1; omega))
section
variable {a0 a1 a2 a3 a4 : Int}
theorem cap_val (k : Nat) : geom_Capacity k a0 a1 a2 a3 a4 = some (capV a0 a1 a2 a3 a4) := by
  unfold capV
  by_cases g : GG a0 a1 a2 a3 a4
  · rw [cap_yes k g, dc_t g]; rfl
  · rw [cap_no k g, dc_f g]; rfl
theorem capV_bound : 0 ≤ capV a0 a1 a2 a3 a4 ∧ capV a0 a1 a2 a3 a4 ≤ 3840 := by
  unfold capV
  by_cases g : GG a0 a1 a2 a3 a4
  · have := cap_bound g; rw [dc_t g]; simp only [cond_true]; omega
  · rw [dc_f g]; simp only [cond_false]; omega
theorem source_val (k : Nat) (sa : Bool) (L : List Int) (m : Int) (sd : Bool) (ns : List (Int × Int)) (z b : Int) (hk : ns.length + 100 ≤ k) (hn : ns.length < 1000000) :
    tail_Source k a0 a1 a2 a3 a4 z sa L m sd ns b = some (srcT a0 a1 a2 a3 a4 z L m ns b) := by
  unfold srcT
  by_cases h : CAN a0 a1 a2 a3 a4 L m ∧ 0 ≤ z ∧ z < a1 - 3 ∧ 0 ≤ b ∧ b < (a0 - 1) * a2
  · rw [source_yes k sa L m sd ns h.1 h.2.1 h.2.2.1 h.2.2.2.1 h.2.2.2.2 hk hn, dc_t h]; rfl
  · rw [source_no k sa L m sd ns h (by omega), dc_f h]; rfl
theorem length_val (k : Nat) (sa : Bool) (L : List Int) (m : Int) (sd : Bool) (ns : List (Int × Int)) (z : Int) (hk : ns.length + 5000 ≤ k) (hn : ns.length < 1000000) :
    ∃ n, tail_Length k a0 a1 a2 a3 a4 z sa L m sd ns = some n ∧ StopR (capV a0 a1 a2 a3 a4) (fun b => (srcT a0 a1 a2 a3 a4 z L m ns b).1 ≠ 0) n := by
  unfold tail_Length
  have hc := @capV_bound a0 a1 a2 a3 a4
  rcases loopTo (tail_Length_l0 (fun n => some n) k z a0 a1 a2 a3 a4 sa L m sd ns) 0 (capV a0 a1 a2 a3 a4) (fun b => (srcT a0 a1 a2 a3 a4 z L m ns b).1 ≠ 0) (some (capV a0 a1 a2 a3 a4)) (fun b => some b)
    (fun j i i0 i1 hp => by
      rw [tail_Length_l0]; unfold tail_Length_l0s
      rw [cap_val]
      simp only [optb]
      rw [decide_eq_true i1, cond_true, source_val k sa L m sd ns z i (by omega) hn]
      simp only [optb]
      rw [decide_eq_false hp, cond_false, w64 (by omega) (by omega)])
    (fun j i i0 i1 hp => by
      rw [tail_Length_l0]; unfold tail_Length_l0s
      rw [cap_val]
      simp only [optb]
      rw [decide_eq_true i1, cond_true, source_val k sa L m sd ns z i (by omega) hn]
      simp only [optb]
      rw [decide_eq_true (Classical.not_not.1 hp)]; rfl)
    (fun j => by
      rw [tail_Length_l0]; unfold tail_Length_l0s
      rw [cap_val]
      simp only [optb]
      rw [decide_eq_false (Int.lt_irrefl _)]; rfl) _ k 0 (by omega) hc.1 rfl (by omega) with ⟨h1, h2⟩ | ⟨n, n0, n1, h1, h2, h3⟩
  · exact ⟨_, h2, hc.1, by omega, h1, fun h => absurd h (by omega)⟩
  · exact ⟨n, h3, n0, by omega, h2, fun _ => h1⟩
end
/-! ### copies of a view -/
theorem take_snoc {α : Type} (l : List α) (i : Nat) (x : α) (h : l[i]? = some x) : l.take i ++ [x] = l.take (i + 1) := by
  rw [List.take_add_one, h]; rfl
theorem views_loop {R : Type} (k : Nat) (ns : List (Int × Int)) (e0 : List (Int × Int) → List (Int × Int) → Option R) : ∀ n (i j : Nat), min ns.length 40 - i = n → i ≤ ns.length → i ≤ 40 → n < j →
    corbellaw12_views_l0 e0 k ns j i (ns.take i) (ns.take i) = e0 (ns.take 40) (ns.take 40) := by
  intro n
  induction n with
  | zero =>
    intro i j h1 h2 h3 hj
    obtain ⟨j, rfl⟩ : ∃ u, j = u + 1 := ⟨j - 1, by omega⟩
    rw [corbellaw12_views_l0]; unfold corbellaw12_views_l0s
    rw [lenI_eq]
    have e : ns.take i = ns.take 40 := by
      by_cases h : i = 40
      · rw [h]
      · rw [List.take_of_length_le (by omega), List.take_of_length_le (by omega)]
    by_cases h : (i : Int) < ns.length
    · rw [decide_eq_true h, cond_true, decide_eq_false (by omega), cond_false, e]
    · rw [decide_eq_false h, cond_false, e]
  | succ n ih =>
    intro i j h1 h2 h3 hj
    obtain ⟨j, rfl⟩ : ∃ u, j = u + 1 := ⟨j - 1, by omega⟩
    rw [corbellaw12_views_l0]; unfold corbellaw12_views_l0s corbellaw12_views_j1
    have hi : i < ns.length := by omega
    have hl : (ns.take i).length + 1 ≤ 1099511627776 := by rw [List.length_take]; omega
    rw [lenI_eq, decide_eq_true (show (i : Int) < ns.length by omega), decide_eq_true (show (i : Int) < 40 by omega), decide_eq_true (show (0 : Int) ≤ i by omega), Int.toNat_natCast, List.getElem?_eq_getElem hi]
    simp only [optb, cond_true, List.length_singleton]
    rw [decide_eq_true hl, cond_true, cond_true, w64 (by omega) (by omega), take_snoc ns i _ (List.getElem?_eq_getElem hi)]
    exact ih (i + 1) j (by omega) (by omega) (by omega) (by omega)
theorem views_val (k : Nat) (hk : 100 ≤ k) (b : Bool) (L : List Int) (m : Int) (b' : Bool) (ns : List (Int × Int)) (hL : L.length ≤ 1000) :
    corbellaw12_views k b L m b' ns = some (((false, L), (m, (true, ns.take 40))), ((false, L), (m, (true, ns.take 40)))) := by
  unfold corbellaw12_views
  have h : ([] : List Int).length + L.length ≤ 1099511627776 := by simp only [List.length_nil]; omega
  rw [decide_eq_true h, cond_true, cond_true]
  have := views_loop k ns (fun a b => some (((false, (([] : List Int) ++ L)), (m, (true, a))), ((false, (([] : List Int) ++ L)), (m, (true, b))))) (min ns.length 40) 0 k (by omega) (by omega) (by omega) (by omega)
  rw [show ns.take 0 = [] from rfl] at this
  exact this
theorem speaks12 (d : Nat) : corbellaw12_speaks (d + 300) = some true := by kernel_rfl
/-! ### the other telling: where a block lies -/
theorem refdrive_loop {R : Type} (e0 : Int → Option R) (k : Nat) {kk d : Int} (hd : 3 ≤ d) (hd2 : d ≤ 16) (hk : kk ≤ 1000) : ∀ (u j : Nat) (i x : Int), 0 ≤ i → i ≤ kk + 1 → (kk + 1 - i).toNat = u → u < j → 0 ≤ x → x < d →
    corbelref04_Drive_l0 e0 k kk d j x i = e0 ((x + (kk + 1 - i)) % d) := by
  intro u
  induction u with
  | zero =>
    intro j i x i0 i1 hu hj x0 x1
    obtain ⟨j, rfl⟩ : ∃ u, j = u + 1 := ⟨j - 1, by omega⟩
    rw [corbelref04_Drive_l0]; unfold corbelref04_Drive_l0s
    rw [decide_eq_false (by omega), cond_false, show kk + 1 - i = 0 by omega, Int.add_zero, Int.emod_eq_of_lt x0 x1]
  | succ u ih =>
    intro j i x i0 i1 hu hj x0 x1
    obtain ⟨j, rfl⟩ : ∃ u, j = u + 1 := ⟨j - 1, by omega⟩
    rw [corbelref04_Drive_l0]; unfold corbelref04_Drive_l0s corbelref04_Drive_j1 corbelref04_Drive_k0
    rw [decide_eq_true (show i ≤ kk by omega), cond_true, w64 (n := x + 1) (by omega) (by omega), w64 (n := i + 1) (by omega) (by omega)]
    by_cases h : x + 1 = d
    · rw [decide_eq_true h, cond_true]
      refine (ih j (i + 1) 0 (by omega) (by omega) (by omega) (by omega) (Int.le_refl 0) (by omega)).trans ?_
      rw [show x + (kk + 1 - i) = 0 + (kk + 1 - (i + 1)) + d by omega, Int.add_emod_right]
    · rw [decide_eq_false h, cond_false]
      refine (ih j (i + 1) (x + 1) (by omega) (by omega) (by omega) (by omega) (by omega) (by omega)).trans ?_
      rw [show x + 1 + (kk + 1 - (i + 1)) = x + (kk + 1 - i) by omega]
theorem refplace_loop {R : Type} (e0 : Int → Int → Option R) (k : Nat) {d : Int} (hd : 3 ≤ d) (hd2 : d ≤ 16) : ∀ (u j : Nat) (b r : Int), 0 ≤ b → b ≤ 100000 → (b / (d - 1)).toNat = u → u < j → 0 ≤ r → r + b / (d - 1) ≤ 1000000 →
    corbelref04_Place_l1 e0 k d j b r = e0 (b % (d - 1)) (r + b / (d - 1)) := by
  intro u
  induction u with
  | zero =>
    intro j b r b0 b1 hu hj r0 r1
    obtain ⟨j, rfl⟩ : ∃ u, j = u + 1 := ⟨j - 1, by omega⟩
    have hq := Int.ediv_nonneg b0 (show 0 ≤ d - 1 by omega)
    have hm := Int.emod_add_mul_ediv b (d - 1)
    have hl := Int.emod_lt_of_pos b (show 0 < d - 1 by omega)
    rw [show b / (d - 1) = 0 by omega, Int.mul_zero] at hm
    rw [corbelref04_Place_l1]; unfold corbelref04_Place_l1s
    rw [w64 (n := d - 1) (by omega) (by omega), decide_eq_false (show ¬ d - 1 ≤ b by omega), cond_false, show b / (d - 1) = 0 by omega, Int.add_zero]
    congr 1; omega
  | succ u ih =>
    intro j b r b0 b1 hu hj r0 r1
    obtain ⟨j, rfl⟩ : ∃ u, j = u + 1 := ⟨j - 1, by omega⟩
    have hm := Int.emod_add_mul_ediv b (d - 1)
    have hn := Int.emod_nonneg b (show d - 1 ≠ 0 by omega)
    have hle : d - 1 ≤ (d - 1) * (b / (d - 1)) := by
      have := Int.mul_le_mul_of_nonneg_left (show 1 ≤ b / (d - 1) by omega) (show 0 ≤ d - 1 by omega)
      omega
    have e1 : (b - (d - 1)) / (d - 1) = b / (d - 1) - 1 := by
      rw [show b - (d - 1) = b + (-1) * (d - 1) by omega, Int.add_mul_ediv_right _ _ (by omega)]; omega
    have e2 : (b - (d - 1)) % (d - 1) = b % (d - 1) := Int.sub_emod_right ..
    rw [corbelref04_Place_l1]; unfold corbelref04_Place_l1s
    rw [w64 (n := d - 1) (by omega) (by omega), decide_eq_true (show d - 1 ≤ b by omega), cond_true, w64 (n := b - (d - 1)) (by omega) (by omega), w64 (n := r + 1) (by omega) (by omega), ih j _ _ (by omega) (by omega) (by omega) (by omega) (by omega) (by omega), e1, e2]
    congr 1; omega
section
variable {a0 a1 a2 a3 a4 : Int}
theorem refplace_yes (k : Nat) (hk : 1000 ≤ k) (g : GG a0 a1 a2 a3 a4) {z b : Int} (z0 : 0 ≤ z) (z1 : z < a1 - 3) (b0 : 0 ≤ b) (b1 : b < (a0 - 1) * a2) :
    corbelref04_Place k a0 a1 a2 a3 a4 z b = some (b / (a0 - 1), sl a0 z (b / (a0 - 1)) (b % (a0 - 1)), true) := by
  have hc := cap_bound g
  have hr := block_row (rows := a2) g.1 b0 b1
  have g' := g
  obtain ⟨h1, h2, h3, h4, h5, h6, _⟩ := g'
  unfold corbelref04_Place
  rw [refgood_val, decide_eq_true g]
  simp only [optb, Bool.not_true, cond_false]
  rw [decide_eq_false (show ¬ z < 0 by omega), w64 (n := a1 - 4) (by omega) (by omega), decide_eq_false (show ¬ a1 - 4 < z by omega), decide_eq_false (show ¬ b < 0 by omega), w64 (n := a0 - 1) (by omega) (by omega), w64 (n := (a0 - 1) * a2) (by omega) (by omega), decide_eq_false (show ¬ (a0 - 1) * a2 ≤ b by omega)]
  simp only [cond_false, corbelref04_Place_j0, corbelref04_Place_k1]
  rw [refplace_loop _ k h1 h2 _ k b 0 b0 (by omega) rfl (by omega) (Int.le_refl 0) (by omega), Int.zero_add]
  unfold corbelref04_Drive
  have e0 := Int.emod_nonneg (z + b / (a0 - 1)) (show a0 ≠ 0 by omega)
  have e1 := Int.emod_lt_of_pos (z + b / (a0 - 1)) (show 0 < a0 by omega)
  rw [decide_eq_false (show ¬ a0 = 0 by omega), cond_false, w64 (n := z + b / (a0 - 1)) (by omega) (by omega), tmod_pos (by omega), refdrive_loop _ k h1 h2 (by omega) _ k 0 _ (Int.le_refl 0) (by omega) rfl (by omega) e0 e1]
  simp only [optb]
  unfold sl
  rw [show (z + b / (a0 - 1)) % a0 + (b % (a0 - 1) + 1 - 0) = (z + b / (a0 - 1)) % a0 + 1 + b % (a0 - 1) by omega]
theorem refplace_no (k : Nat) {z b : Int} (h : ¬ (GG a0 a1 a2 a3 a4 ∧ 0 ≤ z ∧ z < a1 - 3 ∧ 0 ≤ b ∧ b < (a0 - 1) * a2)) :
    corbelref04_Place k a0 a1 a2 a3 a4 z b = some (0, 0, false) := by
  unfold corbelref04_Place
  rw [refgood_val]
  by_cases g : GG a0 a1 a2 a3 a4
  · have hc := cap_bound g
    have g' := g
    obtain ⟨h1, h2, h3, h4, h5, h6, _⟩ := g'
    rw [decide_eq_true g]
    simp only [optb, Bool.not_true, cond_false]
    rw [w64 (n := a1 - 4) (by omega) (by omega), w64 (n := a0 - 1) (by omega) (by omega), w64 (n := (a0 - 1) * a2) (by omega) (by omega)]
    by_cases c1 : z < 0
    · rw [decide_eq_true c1]; rfl
    rw [decide_eq_false c1]
    by_cases c2 : a1 - 4 < z
    · rw [decide_eq_true c2]; rfl
    rw [decide_eq_false c2]
    by_cases c3 : b < 0
    · rw [decide_eq_true c3]; rfl
    rw [decide_eq_false c3, decide_eq_true (show (a0 - 1) * a2 ≤ b by
      by_cases e : (a0 - 1) * a2 ≤ b
      · exact e
      · exact absurd ⟨g, by omega, by omega, by omega, by omega⟩ h)]; rfl
  · rw [decide_eq_false g]; rfl
end
theorem refcan_val {a0 a1 a2 a3 a4 : Int} (k : Nat) (hk : 100 ≤ k) (va : Bool) (L : List Int) (m : Int) (vd : Bool) (ve : List (Int × Int)) :
    corbelref12_Can k a0 a1 a2 a3 a4 va L m vd ve = some (dc (CAN a0 a1 a2 a3 a4 L m)) := by
  unfold corbelref12_Can
  rw [refgood_val]
  simp only [optb, lenI_eq]
  by_cases g : GG a0 a1 a2 a3 a4
  · rw [decide_eq_true g, Bool.not_true, cond_false]
    by_cases h1 : (L.length : Int) = a0
    · rw [decide_eq_true h1, Bool.not_true, cond_false]
      by_cases h2 : m < -1
      · rw [decide_eq_true h2, dc_f (fun x => by have := x.2.2.1; omega)]; rfl
      · rw [decide_eq_false h2, cond_false]
        by_cases h3 : a0 ≤ m
        · rw [decide_eq_true h3, dc_f (fun x => by have := x.2.2.2.1; omega)]; rfl
        · rw [decide_eq_false h3]
          simp only [corbelref12_Can_j0, cond_false, corbelref12_Can_k1]
          have hd : a0 ≤ 16 := g.2.1
          rw [loopAll (corbelref12_Can_l1 (fun v => some v) (some true) k a2 L) 0 L.length (fun q => okx a2 (lat L q)) (some true) (some false)
            (fun j i i0 i1 hp => by
              rw [corbelref12_Can_l1]; unfold corbelref12_Can_l1s corbelref12_Can_j2 corbelref12_Can_k3
              rw [lenI_eq, decide_eq_true i1, decide_eq_true i0, cond_true, cond_true, lat_some i0 i1]
              simp only [optb]
              rw [decide_eq_false (show ¬ lat L i < 0 from fun x => by have := hp.1; omega), decide_eq_false (show ¬ a2 < lat L i from fun x => by have := hp.2; omega)]
              simp only [cond_false, cond_true]
              rw [w64 (by omega) (by omega)])
            (fun j i i0 i1 hp => by
              rw [corbelref12_Can_l1]; unfold corbelref12_Can_l1s corbelref12_Can_j2 corbelref12_Can_k2
              rw [lenI_eq, decide_eq_true i1, decide_eq_true i0, cond_true, cond_true, lat_some i0 i1]
              simp only [optb]
              by_cases hx : lat L i < 0
              · rw [decide_eq_true hx, cond_true, cond_true]
              · rw [decide_eq_false hx, cond_false, cond_true, decide_eq_true (show a2 < lat L i from by have : ¬ (0 ≤ lat L i ∧ lat L i ≤ a2) := hp; omega), cond_true])
            (fun j i i0 i1 => by
              rw [corbelref12_Can_l1]; unfold corbelref12_Can_l1s
              rw [lenI_eq, decide_eq_false (by omega), cond_false]) k 0 (by omega) (by omega)]
          have e : dc (∀ q : Int, 0 ≤ q → q < L.length → okx a2 (lat L q)) = dc (CAN a0 a1 a2 a3 a4 L m) := dc_congr ⟨fun x => ⟨g, h1, by omega, by omega, x⟩, fun x => x.2.2.2.2⟩
          rw [e]
          cases dc _ <;> rfl
    · rw [decide_eq_false h1, dc_f (fun x => h1 x.2.1)]; rfl
  · rw [decide_eq_false g, dc_f (fun x => g x.1)]; rfl
/-! ### the other telling: where a block comes from -/
theorem sl_if {d z r q : Int} (hd : 3 ≤ d) (q0 : -1 ≤ q) (q1 : q ≤ d - 2) : sl d z r q = if (z + r) % d + 1 + q < d then (z + r) % d + 1 + q else (z + r) % d + 1 + q - d := by
  have hp0 := Int.emod_nonneg (z + r) (show d ≠ 0 by omega)
  have hp1 := Int.emod_lt_of_pos (z + r) (show 0 < d by omega)
  unfold sl
  split
  · exact Int.emod_eq_of_lt (by omega) (by omega)
  · rw [show (z + r) % d + 1 + q = ((z + r) % d + 1 + q - d) + d by omega, Int.add_emod_right, show (z + r) % d + 1 + q - d + d - d = (z + r) % d + 1 + q - d by omega]; exact Int.emod_eq_of_lt (by omega) (by omega)
theorem sl_inj {d z r q p : Int} (hd : 3 ≤ d) (q0 : -1 ≤ q) (q1 : q ≤ d - 2) (p0 : -1 ≤ p) (p1 : p ≤ d - 2) (h : sl d z r q = sl d z r p) : q = p := by
  rw [sl_if hd q0 q1, sl_if hd p0 p1] at h
  split at h <;> split at h <;> omega
theorem sl_surj {d z r s : Int} (hd : 3 ≤ d) (s0 : 0 ≤ s) (s1 : s < d) : ∃ q, -1 ≤ q ∧ q ≤ d - 2 ∧ sl d z r q = s := by
  have hp0 := Int.emod_nonneg (z + r) (show d ≠ 0 by omega)
  have hp1 := Int.emod_lt_of_pos (z + r) (show 0 < d by omega)
  by_cases h : (z + r) % d ≤ s
  · refine ⟨s - (z + r) % d - 1, by omega, by omega, ?_⟩
    rw [sl_if hd (by omega) (by omega), if_pos (by omega)]; omega
  · refine ⟨s - (z + r) % d - 1 + d, by omega, by omega, ?_⟩
    rw [sl_if hd (by omega) (by omega), if_neg (by omega)]; omega
theorem all_slots {d z r p : Int} {L : List Int} {m : Int} (hd : 3 ≤ d) (p0 : 0 ≤ p) (p1 : p < d - 1) : (∀ s, 0 ≤ s → s < d → (s ≠ sl d z r p → has L m s r)) ↔ allB d z r L m p (-1) (d - 1) := by
  constructor
  · intro h q q0 q1 hq
    have hs := sl_lt (show 0 < d by omega) z r q
    exact h _ hs.1 hs.2 (fun e => hq (sl_inj hd q0 (by omega) (by omega) (by omega) e))
  · intro h s s0 s1 hs
    obtain ⟨q, q0, q1, rfl⟩ := sl_surj (z := z) (r := r) hd s0 s1
    exact h q q0 (by omega) (fun e => hs (by rw [e]))
theorem row_of {d r q : Int} (hd : 3 ≤ d) (q0 : 0 ≤ q) (q1 : q < d - 1) : (r * (d - 1) + q) / (d - 1) = r ∧ (r * (d - 1) + q) % (d - 1) = q := by
  constructor
  · rw [Int.add_comm, Int.add_mul_ediv_right _ _ (by omega), Int.ediv_eq_zero_of_lt q0 q1]; omega
  · rw [Int.add_comm, Int.add_mul_emod_self_right]; exact Int.emod_eq_of_lt q0 q1
section
variable {a0 a1 a2 a3 a4 : Int}
theorem refhas_val (k : Nat) (va : Bool) (L : List Int) (m : Int) (vd : Bool) (ns : List (Int × Int)) {s r : Int} (s0 : 0 ≤ s) (s1 : s < L.length) :
    corbelref12_has k va L m vd ns s r = some (dc (has L m s r)) := has_val k va L m vd ns s0 s1
theorem refall_loop {R : Type} (e0 : Bool → Option R) (k : Nat) (hk : 100 ≤ k) (g : GG a0 a1 a2 a3 a4) (va : Bool) (L : List Int) (m : Int) (hL : (L.length : Int) = a0) (vd : Bool) (ns : List (Int × Int)) {z r p : Int} (p0 : 0 ≤ p) (p1 : p < a0 - 1) :
    corbelref12_Source_l1 e0 k r (sl a0 z r p) a0 va L m vd ns k true 0 = e0 (dc (allB a0 z r L m p (-1) (a0 - 1))) := by
  have hd := g.2.1
  rw [loopFold (corbelref12_Source_l1 e0 k r (sl a0 z r p) a0 va L m vd ns) 0 a0 (fun s a => a && dc (s ≠ sl a0 z r p → has L m s r)) e0
    (fun j a s s0 s1 => by
      rw [corbelref12_Source_l1]; unfold corbelref12_Source_l1s corbelref12_Source_j2 corbelref12_Source_k2 corbelref12_Source_j3
      rw [decide_eq_true s1, cond_true, w64 (n := s + 1) (by omega) (by omega)]
      by_cases e : s = sl a0 z r p
      · rw [decide_eq_true e, dc_t (fun x => absurd e x), Bool.and_true]; rfl
      · rw [decide_eq_false e, refhas_val k va L m vd ns s0 (by omega)]
        simp only [optb, Bool.not_false, cond_true]
        by_cases h : has L m s r
        · rw [dc_t h, dc_t (fun _ => h), Bool.and_true]; rfl
        · rw [dc_f h, dc_f (fun x => h (x e)), Bool.and_false]; rfl)
    (fun j a s s0 s1 => by
      rw [corbelref12_Source_l1]; unfold corbelref12_Source_l1s
      rw [decide_eq_false (by omega), cond_false]) _ k true 0 (Int.le_refl 0) rfl (by omega), foldI_and, Bool.true_and]
  congr 1
  refine dc_congr (Iff.trans ?_ (all_slots g.1 p0 p1))
  exact ⟨fun h s s0 s1 => h s s0 (by omega), fun h s s0 s1 => h s s0 (by omega)⟩
theorem refgood_loop {R : Type} (e0 : Bool → Option R) (k : Nat) (hk : 5000 ≤ k) (g : GG a0 a1 a2 a3 a4) (va : Bool) (L : List Int) (m : Int) (hL : (L.length : Int) = a0) (vd : Bool) (ns : List (Int × Int)) {z r p w : Int} (t : 0 ≤ z ∧ z < a1 - 3 ∧ 0 ≤ r ∧ r < a2) (p0 : 0 ≤ p) (w0 : p < w) (w1 : w ≤ a0 - 1) :
    corbelref12_Source_l6 e0 k z (r * (a0 - 1) + p) r (r * (a0 - 1)) a0 a1 a2 a3 a4 va L m vd ns w k true (r * (a0 - 1)) = e0 (dc (allB a0 z r L m p 0 w)) := by
  have hd := g.2.1
  have h6 := g.2.2.2.2.2.1
  have hc := cap_bound g
  have f0 : 0 ≤ r * (a0 - 1) := Int.mul_nonneg t.2.2.1 (by omega)
  have f1 : r * (a0 - 1) + (a0 - 1) ≤ (a0 - 1) * a2 := by
    have := Int.mul_le_mul_of_nonneg_right (show r + 1 ≤ a2 by omega) (show 0 ≤ a0 - 1 by omega)
    rw [Int.add_mul, Int.one_mul, Int.mul_comm a2] at this
    exact this
  rw [loopFold (corbelref12_Source_l6 e0 k z (r * (a0 - 1) + p) r (r * (a0 - 1)) a0 a1 a2 a3 a4 va L m vd ns w) (r * (a0 - 1)) (r * (a0 - 1) + w) (fun b a => a && dc (b ≠ r * (a0 - 1) + p → has L m (sl a0 z r (b - r * (a0 - 1))) r)) e0
    (fun j a b b0 b1 => by
      rw [corbelref12_Source_l6]; unfold corbelref12_Source_l6s corbelref12_Source_j7 corbelref12_Source_k4 corbelref12_Source_j8
      have hrow := row_of (d := a0) (r := r) (q := b - r * (a0 - 1)) g.1 (by omega) (by omega)
      rw [show r * (a0 - 1) + (b - r * (a0 - 1)) = b by omega] at hrow
      rw [w64 (n := r * (a0 - 1) + w) (by omega) (by omega), decide_eq_true b1, cond_true, refplace_yes k (by omega) g t.1 t.2.1 (show 0 ≤ b by omega) (by omega), hrow.1, hrow.2, w64 (n := b + 1) (by omega) (by omega)]
      have hs := sl_lt (show 0 < a0 by have := g.1; omega) z r (b - r * (a0 - 1))
      simp only [optb]
      by_cases e : b = r * (a0 - 1) + p
      · rw [decide_eq_true e, dc_t (fun x => absurd e x), Bool.and_true]; rfl
      · rw [decide_eq_false e, refhas_val k va L m vd ns hs.1 (by omega)]
        simp only [Bool.not_false, cond_true]
        by_cases h : has L m (sl a0 z r (b - r * (a0 - 1))) r
        · rw [dc_t h, dc_t (fun _ => h), Bool.and_true]; rfl
        · rw [dc_f h, dc_f (fun x => h (x e)), Bool.and_false]; rfl)
    (fun j a b b0 b1 => by
      rw [corbelref12_Source_l6]; unfold corbelref12_Source_l6s
      rw [w64 (n := r * (a0 - 1) + w) (by omega) (by omega), decide_eq_false (by omega), cond_false]) _ k true _ (Int.le_refl _) rfl (by omega), foldI_and, Bool.true_and]
  congr 1
  refine dc_congr ⟨fun h q q0 q1 hq => ?_, fun h b b0 b1 hb => ?_⟩
  · have := h (r * (a0 - 1) + q) (by omega) (by omega) (by omega)
    rwa [show r * (a0 - 1) + q - r * (a0 - 1) = q by omega] at this
  · exact h (b - r * (a0 - 1)) (by omega) (by omega) (by omega)
theorem refbest_loop {R : Type} (e0 : Int → Option R) (k : Nat) (hk : 5000 ≤ k) (g : GG a0 a1 a2 a3 a4) (va : Bool) (L : List Int) (m : Int) (hL : (L.length : Int) = a0) (vd : Bool) (ns : List (Int × Int)) (hn : ns.length ≤ 1000) {z r p : Int} (t : 0 ≤ z ∧ z < a1 - 3 ∧ 0 ≤ r ∧ r < a2) (p0 : 0 ≤ p) (p1 : p < a0 - 1) :
    corbelref12_Source_l4 e0 k z (r * (a0 - 1) + p) r (r * (a0 - 1)) a0 a1 a2 a3 a4 va L m vd ns k (-1) 0 = e0 (lastI (helps a0 z r L m p ns) ns.length) := by
  have hd := g.2.1
  have h6 := g.2.2.2.2.2.1
  rw [loopFold (corbelref12_Source_l4 e0 k z (r * (a0 - 1) + p) r (r * (a0 - 1)) a0 a1 a2 a3 a4 va L m vd ns) 0 ns.length (fun i a => bif dc (helps a0 z r L m p ns i) then i else a) e0
    (fun j a i i0 i1 => by
      obtain ⟨i, rfl⟩ : ∃ u : Nat, i = u := ⟨i.toNat, by omega⟩
      rw [corbelref12_Source_l4]; unfold corbelref12_Source_l4s corbelref12_Source_j9 corbelref12_Source_k3 corbelref12_Source_j5
      rw [lenI_eq, decide_eq_true i1, decide_eq_true i0, cond_true, cond_true, note_some i (by omega)]
      simp only [optb]
      rw [w64 (n := r * (a0 - 1) + p - r * (a0 - 1)) (by omega) (by omega), w64 (n := a0 - 1) (by omega) (by omega), w64 (n := (i : Int) + 1) (by omega) (by omega), show r * (a0 - 1) + p - r * (a0 - 1) = p by omega]
      by_cases c1 : noteR ns i = r
      · rw [decide_eq_true c1]
        by_cases c2 : noteW ns i ≤ p
        · rw [decide_eq_true c2, dc_f (fun x : helps a0 z r L m p ns i => by have := x.2.1; omega)]; rfl
        · rw [decide_eq_false c2]
          by_cases c3 : a0 - 1 < noteW ns i
          · rw [decide_eq_true c3, dc_f (fun x : helps a0 z r L m p ns i => by have := x.2.2.1; omega)]; rfl
          · rw [decide_eq_false c3]
            simp only [Bool.not_true, cond_false]
            rw [refgood_loop _ k hk g va L m hL vd ns t p0 (show p < noteW ns i by omega) (by omega)]
            by_cases c4 : allB a0 z r L m p 0 (noteW ns i)
            · rw [dc_t c4, dc_t (show helps a0 z r L m p ns i from ⟨c1, by omega, by omega, c4⟩)]; rfl
            · rw [dc_f c4, dc_f (fun x : helps a0 z r L m p ns i => c4 x.2.2.2)]; rfl
      · rw [decide_eq_false c1, dc_f (fun x : helps a0 z r L m p ns i => c1 x.1)]; rfl)
    (fun j a i i0 i1 => by
      rw [corbelref12_Source_l4]; unfold corbelref12_Source_l4s
      rw [lenI_eq, decide_eq_false (by omega), cond_false]) _ k (-1) 0 (Int.le_refl 0) rfl (by omega), show ((ns.length : Int) - 0).toNat = ns.length by omega, foldI_last]
theorem refsource_val (k : Nat) (hk : 5000 ≤ k) (va : Bool) (L : List Int) (m : Int) (vd : Bool) (ns : List (Int × Int)) (hn : ns.length ≤ 1000) (z b : Int) :
    corbelref12_Source k a0 a1 a2 a3 a4 z va L m vd ns b = some (srcT a0 a1 a2 a3 a4 z L m ns b) := by
  unfold corbelref12_Source srcT
  by_cases h : GG a0 a1 a2 a3 a4 ∧ 0 ≤ z ∧ z < a1 - 3 ∧ 0 ≤ b ∧ b < (a0 - 1) * a2
  · obtain ⟨g, z0, z1, b0, b1⟩ := h
    have hd := g.1
    have hd' := g.2.1
    have h6 := g.2.2.2.2.2.1
    have hr := block_row (rows := a2) hd b0 b1
    rw [refplace_yes k (by omega) g z0 z1 b0 b1]
    simp only [optb]
    rw [refcan_val k (by omega)]
    by_cases c : CAN a0 a1 a2 a3 a4 L m
    · have hs := sl_lt (show 0 < a0 by omega) z (b / (a0 - 1)) (b % (a0 - 1))
      have hb : b = b / (a0 - 1) * (a0 - 1) + b % (a0 - 1) := by
        have := Int.emod_add_mul_ediv b (a0 - 1)
        rw [Int.mul_comm] at this; omega
      have hm : b / (a0 - 1) * (a0 - 1) ≤ b := by omega
      have hm0 : 0 ≤ b / (a0 - 1) * (a0 - 1) := Int.mul_nonneg hr.1 (by omega)
      have hc := cap_bound g
      rw [dc_t c, dc_t (show CAN a0 a1 a2 a3 a4 L m ∧ 0 ≤ z ∧ z < a1 - 3 ∧ 0 ≤ b ∧ b < (a0 - 1) * a2 from ⟨c, z0, z1, b0, b1⟩)]
      simp only [Bool.not_true, cond_false, cond_true, corbelref12_Source_j0, corbelref12_Source_k1]
      rw [refhas_val k va L m vd ns hs.1 (by have := c.2.1; omega)]
      unfold blkV srcV
      by_cases c1 : has L m (sl a0 z (b / (a0 - 1)) (b % (a0 - 1))) (b / (a0 - 1))
      · rw [dc_t c1]; rfl
      rw [dc_f c1]
      by_cases c2 : sl a0 z (b / (a0 - 1)) (b % (a0 - 1)) = m
      · rw [decide_eq_true c2, dc_f (fun x : sl a0 z (b / (a0 - 1)) (b % (a0 - 1)) ≠ m => x c2)]
        simp only [Bool.not_true, cond_false]
        rw [refall_loop _ k (by omega) g va L m c.2.1 vd ns hr.2.2.1 hr.2.2.2, w64 (n := a0 - 1) (by omega) (by omega), w64 (n := b / (a0 - 1) * (a0 - 1)) (by omega) (by omega)]
        by_cases c3 : allB a0 z (b / (a0 - 1)) L m (b % (a0 - 1)) (-1) (a0 - 1)
        · rw [dc_t c3]; rfl
        rw [dc_f c3]
        simp only [cond_false]
        have hbest := refbest_loop (fun best => bif decide ((0 : Int) ≤ best) then some ((3 : Int), best) else some ((0 : Int), (0 : Int))) k hk g va L m c.2.1 vd ns hn (z := z) (r := b / (a0 - 1)) (p := b % (a0 - 1)) ⟨z0, z1, hr.1, hr.2.1⟩ hr.2.2.1 hr.2.2.2
        rw [← hb] at hbest
        refine hbest.trans ?_
        cases decide (0 ≤ lastI (helps a0 z (b / (a0 - 1)) L m (b % (a0 - 1)) ns) ns.length) <;> rfl
      · rw [decide_eq_false c2, dc_t c2]; rfl
    · rw [dc_f c, dc_f (fun x : CAN a0 a1 a2 a3 a4 L m ∧ _ => c x.1)]; rfl
  · rw [refplace_no k h, dc_f (fun x : CAN a0 a1 a2 a3 a4 L m ∧ 0 ≤ z ∧ z < a1 - 3 ∧ 0 ≤ b ∧ b < (a0 - 1) * a2 => h ⟨x.1.1, x.2⟩)]
    simp only [optb]
    rw [refcan_val k (by omega)]
    cases dc (CAN a0 a1 a2 a3 a4 L m) <;> rfl
theorem reflength_val (k : Nat) (hk : 6000 ≤ k) (va : Bool) (L : List Int) (m : Int) (vd : Bool) (ns : List (Int × Int)) (hn : ns.length ≤ 1000) (z : Int) :
    ∃ n, corbelref12_Length k a0 a1 a2 a3 a4 z va L m vd ns = some n ∧ StopR (capV a0 a1 a2 a3 a4) (fun b => (srcT a0 a1 a2 a3 a4 z L m ns b).1 ≠ 0) n := by
  unfold corbelref12_Length
  rw [refgood_val]
  by_cases g : GG a0 a1 a2 a3 a4
  · have hc := cap_bound g
    have hd := g.2.1
    have hd' := g.1
    rw [show capV a0 a1 a2 a3 a4 = (a0 - 1) * a2 by unfold capV; rw [dc_t g]; rfl, decide_eq_true g]
    simp only [optb, Bool.not_true, cond_false]
    rw [w64 (n := a0 - 1) (by omega) (by omega), w64 (n := (a0 - 1) * a2) (by omega) (by omega)]
    rcases loopTo (corbelref12_Length_l0 (fun n => some n) (some ((a0 - 1) * a2)) k z a0 a1 a2 a3 a4 va L m vd ns) 0 ((a0 - 1) * a2) (fun b => (srcT a0 a1 a2 a3 a4 z L m ns b).1 ≠ 0) (some ((a0 - 1) * a2)) (fun b => some b)
      (fun j i i0 i1 hp => by
        rw [corbelref12_Length_l0]; unfold corbelref12_Length_l0s
        rw [w64 (n := a0 - 1) (by omega) (by omega), w64 (n := (a0 - 1) * a2) (by omega) (by omega), decide_eq_true i1, cond_true, refsource_val k (by omega) va L m vd ns hn z i]
        simp only [optb]
        rw [decide_eq_false hp, cond_false, w64 (by omega) (by omega)])
      (fun j i i0 i1 hp => by
        rw [corbelref12_Length_l0]; unfold corbelref12_Length_l0s
        rw [w64 (n := a0 - 1) (by omega) (by omega), w64 (n := (a0 - 1) * a2) (by omega) (by omega), decide_eq_true i1, cond_true, refsource_val k (by omega) va L m vd ns hn z i]
        simp only [optb]
        rw [decide_eq_true (Classical.not_not.1 hp)]; rfl)
      (fun j => by
        rw [corbelref12_Length_l0]; unfold corbelref12_Length_l0s
        rw [w64 (n := a0 - 1) (by omega) (by omega), w64 (n := (a0 - 1) * a2) (by omega) (by omega), decide_eq_false (Int.lt_irrefl _)]; rfl) _ k 0 (by omega) (by omega) rfl (by omega) with ⟨h1, h2⟩ | ⟨n, n0, n1, h1, h2, h3⟩
    · exact ⟨_, h2, by omega, by omega, h1, fun h => absurd h (by omega)⟩
    · exact ⟨n, h3, n0, by omega, h2, fun _ => h1⟩
  · rw [decide_eq_false g, show capV a0 a1 a2 a3 a4 = 0 by unfold capV; rw [dc_f g]; rfl]
    exact ⟨0, rfl, Int.le_refl 0, Int.le_refl 0, fun b b0 b1 => absurd b1 (by omega), fun h => absurd h (by omega)⟩
end
theorem sources_main (a0 a1 a2 a3 a4 z : Int) (bL : Bool) (L : List Int) (m : Int) (bn : Bool) (ns : List (Int × Int)) : corbellaw12_TailSources (9700 + 300) a0 a1 a2 a3 a4 z bL L m bn ns = some true := by
  unfold corbellaw12_TailSources
  rw [speaks12]
  simp only [optb, Bool.not_true, cond_false, lenI_eq]
  generalize hk : 9700 + 300 = k
  by_cases h1 : (40 : Int) < L.length
  · rw [decide_eq_true h1]; rfl
  rw [decide_eq_false h1, cond_false, views_val k (by omega) _ _ _ _ _ (by omega)]
  have hn : (ns.take 40).length ≤ 40 := by rw [List.length_take]; omega
  obtain ⟨n, e, hs⟩ := length_val (a0 := a0) (a1 := a1) (a2 := a2) (a3 := a3) (a4 := a4) k false L m true (ns.take 40) z (by omega) (by omega)
  obtain ⟨n', e', hs'⟩ := reflength_val (a0 := a0) (a1 := a1) (a2 := a2) (a3 := a3) (a4 := a4) k (by omega) false L m true (ns.take 40) (by omega) z
  have en : n = n' := by
    have e1 := stop_mono hs hs' (fun _ _ _ h => h)
    have e2 := stop_mono hs' hs (fun _ _ _ h => h)
    omega
  subst en
  simp only
  rw [e]
  simp only
  rw [e']
  simp only [decide_true, Bool.not_true, cond_false, corbellaw12_TailSources_j0]
  rw [loopAll (corbellaw12_TailSources_l1 (fun v => some v) (some true) k z false L true (ns.take 40) false L true (ns.take 40) m m a0 a1 a2 a3 a4 a0 a1 a2 a3 a4) (-1) 60 (fun _ => True) (some true) none
    (fun j i i0 i1 hp => by
      rw [corbellaw12_TailSources_l1]; unfold corbellaw12_TailSources_l1s
      rw [decide_eq_true i1, cond_true, source_val k false L m true _ z i (by omega) (by omega), refsource_val k (by omega) false L m true _ (by omega) z i]
      simp only [optb, decide_true, Bool.not_true, cond_false, corbellaw12_TailSources_j2, corbellaw12_TailSources_k1]
      rw [w64 (by omega) (by omega)])
    (fun j i i0 i1 hp => absurd trivial hp)
    (fun j i i0 i1 => by
      rw [corbellaw12_TailSources_l1]; unfold corbellaw12_TailSources_l1s
      rw [decide_eq_false (by omega), cond_false]) k (-1) (by omega) (by omega), dc_t (fun _ _ _ => trivial)]; rfl
theorem TailSources : TailSourcesPure := fun x0 x1 x2 _ _ _ => ⟨9700 + 300, sources_main _ _ _ _ _ _ _ _ _ _ _⟩
end Go.Proofs.Ythilffdaofaalaa.Pure
