/- RebuildTasks: the pure statement, over numbers and lists alone; no conditions. -/
import Derived.Test.YthilffdaofaalaaStatRebuildTasks
set_option linter.unusedVariables false
set_option linter.unusedSimpArgs false
namespace Go.Proofs.Ythilffdaofaalaa.Pure
open Go Go.RowKit Go.Proofs.Ythilffdaofaalaa.Ev
/-! ### whole numbers -/
theorem wf_i64 {n : Int} (h : Ty.wf (.int .i64) n) : -9223372036854775808 ≤ n ∧ n ≤ 9223372036854775807 := by
  have h : (Lit.int .i64 n).wf = true := h
  simpa [Lit.wf, IntKind.min, IntKind.max, IntKind.signed, IntKind.bits] using h
theorem w64 {n : Int} (h0 : -9223372036854775808 ≤ n) (h1 : n ≤ 9223372036854775807) : wrap64 n = n := by unfold wrap64; omega
theorem tdiv_pos {a b : Int} (ha : 0 ≤ a) : Int.tdiv a b = a / b := Int.tdiv_eq_ediv_of_nonneg ha
theorem tmod_pos {a b : Int} (ha : 0 ≤ a) : Int.tmod a b = a % b := Int.tmod_eq_emod_of_nonneg ha
theorem bytesOf_append (a b : List Int) : bytesOf a ++ bytesOf b = bytesOf (a ++ b) := by
  apply ByteArray.ext
  simp [bytesOf]
theorem cond_t {α : Type} {c : Bool} {a b : α} (h : c = true) : (bif c then a else b) = a := by rw [h]; rfl
theorem cond_f {α : Type} {c : Bool} {a b : α} (h : c = false) : (bif c then a else b) = b := by rw [h]; rfl
theorem optb_some {α β : Type} (a : α) (f : α → Option β) : optb (some a) f = f a := rfl
/-! ### the shape of an array of drives -/
def GG (a0 a1 a2 a3 a4 : Int) : Prop := 3 ≤ a0 ∧ a0 ≤ 16 ∧ 5 ≤ a1 ∧ a1 ≤ 64 ∧ 4 ≤ a2 ∧ a2 ≤ 256 ∧ 1 ≤ a3 ∧ a3 ≤ a4 ∧ a4 ≤ a1
instance (a0 a1 a2 a3 a4 : Int) : Decidable (GG a0 a1 a2 a3 a4) := by unfold GG; infer_instance
theorem within_val (k : Nat) (n l h : Int) : geom_within k n l h = some (decide (l ≤ n ∧ n ≤ h)) := by
  unfold geom_within
  by_cases a : l ≤ n <;> simp [a]
theorem good_val (k : Nat) (a0 a1 a2 a3 a4 : Int) : geom_Good k a0 a1 a2 a3 a4 = some (decide (GG a0 a1 a2 a3 a4)) := by
  unfold geom_Good
  simp only [within_val, optb]
  by_cases h1 : 3 ≤ a0 ∧ a0 ≤ 16 <;> by_cases h2 : 5 ≤ a1 ∧ a1 ≤ 64 <;> by_cases h3 : 4 ≤ a2 ∧ a2 ≤ 256 <;> by_cases h4 : 1 ≤ a3 ∧ a3 ≤ a4 <;> simp only [h1, h2, h3, h4, decide_true, decide_false, cond_true, cond_false, Option.some.injEq, decide_eq_decide, and_self] <;> first | (unfold GG; omega) | (symm; rw [decide_eq_false_iff_not]; unfold GG; omega)
theorem refgood_val (k : Nat) (a0 a1 a2 a3 a4 : Int) : corbelref04_Good k a0 a1 a2 a3 a4 = some (decide (GG a0 a1 a2 a3 a4)) := by
  unfold corbelref04_Good corbelref04_Good_j0 corbelref04_Good_k0 corbelref04_Good_k1
  by_cases h1 : a0 < 3 <;> by_cases h2 : 16 < a0 <;> by_cases h3 : a1 < 5 <;> by_cases h4 : 64 < a1 <;> by_cases h5 : a2 < 4 <;> by_cases h6 : 256 < a2 <;> by_cases h7 : 0 < a3 <;> by_cases h8 : a3 ≤ a4 <;>
    simp only [h1, h2, h3, h4, h5, h6, h7, h8, decide_true, decide_false, cond_true, cond_false, Option.some.injEq, decide_eq_decide] <;> first | (unfold GG; omega) | (symm; rw [decide_eq_false_iff_not]; unfold GG; omega)
section
variable {a0 a1 a2 a3 a4 : Int}
theorem cap_bound (h : GG a0 a1 a2 a3 a4) : 8 ≤ (a0 - 1) * a2 ∧ (a0 - 1) * a2 ≤ 3840 := by
  obtain ⟨h1, h2, _, _, h5, h6, _⟩ := h
  have e1 : 2 * 4 ≤ (a0 - 1) * a2 := Int.mul_le_mul (by omega) h5 (by omega) (by omega)
  have e2 : (a0 - 1) * a2 ≤ 15 * 256 := Int.mul_le_mul (by omega) h6 (by omega) (by omega)
  omega
theorem zones_yes (k : Nat) (h : GG a0 a1 a2 a3 a4) : geom_Zones k a0 a1 a2 a3 a4 = some (a1 - 3) := by
  unfold geom_Zones
  rw [good_val, decide_eq_true h]
  obtain ⟨_, _, h1, h2, _⟩ := h
  show some _ = _
  rw [w64 (n := a1 - 2) (by omega) (by omega), w64 (by omega) (by omega)]
  congr 1; omega
theorem zones_no (k : Nat) (h : ¬ GG a0 a1 a2 a3 a4) : geom_Zones k a0 a1 a2 a3 a4 = some 0 := by
  unfold geom_Zones
  rw [good_val, decide_eq_false h]; rfl
theorem cap_yes (k : Nat) (h : GG a0 a1 a2 a3 a4) : geom_Capacity k a0 a1 a2 a3 a4 = some ((a0 - 1) * a2) := by
  unfold geom_Capacity
  rw [good_val, decide_eq_true h]
  have hb := cap_bound h
  obtain ⟨h1, h2, _⟩ := h
  show some _ = _
  rw [w64 (n := a0 - 1) (by omega) (by omega), w64 (by omega) (by omega)]
theorem cap_no (k : Nat) (h : ¬ GG a0 a1 a2 a3 a4) : geom_Capacity k a0 a1 a2 a3 a4 = some 0 := by
  unfold geom_Capacity
  rw [good_val, decide_eq_false h]; rfl
theorem there_yes (k : Nat) (h : GG a0 a1 a2 a3 a4) (z r : Int) : geom_there k a0 a1 a2 a3 a4 z r = some (decide (0 ≤ z ∧ z < a1 - 3 ∧ 0 ≤ r ∧ r < a2)) := by
  unfold geom_there
  rw [zones_yes k h]
  obtain ⟨h1, h2, h3, h4, h5, h6, _⟩ := h
  simp only [optb, within_val]
  rw [w64 (n := a1 - 3 - 1) (by omega) (by omega), w64 (n := a2 - 1) (by omega) (by omega)]
  by_cases h7 : 0 ≤ z ∧ z ≤ a1 - 3 - 1
  · rw [decide_eq_true h7]
    simp only [cond_true, Option.some.injEq, decide_eq_decide]
    omega
  · rw [decide_eq_false h7, decide_eq_false (show ¬ (0 ≤ z ∧ z < a1 - 3 ∧ 0 ≤ r ∧ r < a2) by omega)]; rfl
theorem there_no (k : Nat) (h : ¬ GG a0 a1 a2 a3 a4) (z r : Int) : geom_there k a0 a1 a2 a3 a4 z r = some false := by
  unfold geom_there
  rw [zones_no k h]
  simp only [optb, within_val]
  have : wrap64 (0 - 1) = -1 := by kernel_rfl
  rw [this, decide_eq_false (by omega)]; rfl
end
/-! ### loops over whole numbers -/
noncomputable def dc (P : Prop) : Bool := @decide P (Classical.propDecidable P)
theorem dc_t {P : Prop} (h : P) : dc P = true := @decide_eq_true P (Classical.propDecidable P) h
theorem dc_f {P : Prop} (h : ¬ P) : dc P = false := @decide_eq_false P (Classical.propDecidable P) h
theorem dc_iff {P : Prop} : dc P = true ↔ P := ⟨fun h => @of_decide_eq_true P (Classical.propDecidable P) h, dc_t⟩
theorem dc_congr {P Q : Prop} (h : P ↔ Q) : dc P = dc Q := by rw [propext h]
theorem dc_dec {P : Prop} [Decidable P] : decide P = dc P := by
  by_cases h : P
  · rw [decide_eq_true h, dc_t h]
  · rw [decide_eq_false h, dc_f h]
theorem dc_and (P Q : Prop) : (dc P && dc Q) = dc (P ∧ Q) := by
  by_cases h : P
  · by_cases h2 : Q
    · rw [dc_t h, dc_t h2, dc_t ⟨h, h2⟩]; rfl
    · rw [dc_f h2, dc_f (fun x : P ∧ Q => h2 x.2), Bool.and_false]
  · rw [dc_f h, dc_f (fun x : P ∧ Q => h x.1)]; rfl
/-- up to the first number without `P` -/
theorem loopUp {R : Type} (f : Nat → Int → Option R) (lo to : Int) (P : Int → Prop) (yes : Option R) (no : Int → Option R)
    (hs : ∀ j i, lo ≤ i → i < to → P i → f (j + 1) i = f j (i + 1)) (hn : ∀ j i, lo ≤ i → i < to → ¬ P i → f (j + 1) i = no i) (he : ∀ j i, lo ≤ i → to ≤ i → f (j + 1) i = yes) :
    ∀ n j i, lo ≤ i → (to - i).toNat = n → n < j → ((∀ q, i ≤ q → q < to → P q) ∧ f j i = yes) ∨ (∃ q, i ≤ q ∧ q < to ∧ ¬ P q ∧ (∀ u, i ≤ u → u < q → P u) ∧ f j i = no q) := by
  intro n
  induction n with
  | zero =>
    intro j i hl h hj
    obtain ⟨j, rfl⟩ : ∃ u, j = u + 1 := ⟨j - 1, by omega⟩
    exact .inl ⟨fun q h1 h2 => absurd h2 (by omega), he j i hl (by omega)⟩
  | succ n ih =>
    intro j i hl h hj
    obtain ⟨j, rfl⟩ : ∃ u, j = u + 1 := ⟨j - 1, by omega⟩
    by_cases hp : P i
    · rw [hs j i hl (by omega) hp]
      rcases ih j (i + 1) (by omega) (by omega) (by omega) with ⟨h1, h2⟩ | ⟨q, h1, h2, h3, h4, h5⟩
      · refine .inl ⟨fun q h3 h4 => ?_, h2⟩
        by_cases e : q = i
        · rw [e]; exact hp
        · exact h1 q (by omega) h4
      · refine .inr ⟨q, by omega, h2, h3, fun u h6 h7 => ?_, h5⟩
        by_cases e : u = i
        · rw [e]; exact hp
        · exact h4 u (by omega) h7
    · exact .inr ⟨i, by omega, by omega, hp, fun u h1 h2 => absurd h2 (by omega), hn j i hl (by omega) hp⟩
/-- the same, for a loop that ends where it should -/
theorem loopTo {R : Type} (f : Nat → Int → Option R) (lo to : Int) (P : Int → Prop) (yes : Option R) (no : Int → Option R)
    (hs : ∀ j i, lo ≤ i → i < to → P i → f (j + 1) i = f j (i + 1)) (hn : ∀ j i, lo ≤ i → i < to → ¬ P i → f (j + 1) i = no i) (he : ∀ j, f (j + 1) to = yes) :
    ∀ n j i, lo ≤ i → i ≤ to → (to - i).toNat = n → n < j → ((∀ q, i ≤ q → q < to → P q) ∧ f j i = yes) ∨ (∃ q, i ≤ q ∧ q < to ∧ ¬ P q ∧ (∀ u, i ≤ u → u < q → P u) ∧ f j i = no q) := by
  intro n
  induction n with
  | zero =>
    intro j i hl hle h hj
    obtain ⟨j, rfl⟩ : ∃ u, j = u + 1 := ⟨j - 1, by omega⟩
    exact .inl ⟨fun q h1 h2 => absurd h2 (by omega), by rw [show i = to by omega]; exact he j⟩
  | succ n ih =>
    intro j i hl hle h hj
    obtain ⟨j, rfl⟩ : ∃ u, j = u + 1 := ⟨j - 1, by omega⟩
    by_cases hp : P i
    · rw [hs j i hl (by omega) hp]
      rcases ih j (i + 1) (by omega) (by omega) (by omega) (by omega) with ⟨h1, h2⟩ | ⟨q, h1, h2, h3, h4, h5⟩
      · refine .inl ⟨fun q h3 h4 => ?_, h2⟩
        by_cases e : q = i
        · rw [e]; exact hp
        · exact h1 q (by omega) h4
      · refine .inr ⟨q, by omega, h2, h3, fun u h6 h7 => ?_, h5⟩
        by_cases e : u = i
        · rw [e]; exact hp
        · exact h4 u (by omega) h7
    · exact .inr ⟨i, by omega, by omega, hp, fun u h1 h2 => absurd h2 (by omega), hn j i hl (by omega) hp⟩
theorem loopAll {R : Type} (f : Nat → Int → Option R) (lo to : Int) (P : Int → Prop) (yes no : Option R)
    (hs : ∀ j i, lo ≤ i → i < to → P i → f (j + 1) i = f j (i + 1)) (hn : ∀ j i, lo ≤ i → i < to → ¬ P i → f (j + 1) i = no) (he : ∀ j i, lo ≤ i → to ≤ i → f (j + 1) i = yes)
    (j : Nat) (i : Int) (hl : lo ≤ i) (hj : (to - i).toNat < j) : f j i = bif dc (∀ q, i ≤ q → q < to → P q) then yes else no := by
  rcases loopUp f lo to P yes (fun _ => no) hs hn he _ j i hl rfl hj with ⟨h1, h2⟩ | ⟨q, h1, h2, h3, _, h5⟩
  · rw [dc_t h1, h2]; rfl
  · rw [dc_f (fun h => h3 (h q h1 h2)), h5]; rfl
/-- the last number below `n` with `P` -/
noncomputable def lastI (P : Int → Prop) : Nat → Int
  | 0 => -1
  | n + 1 => bif dc (P n) then n else lastI P n
theorem lastI_lt (P : Int → Prop) (n : Nat) : -1 ≤ lastI P n ∧ lastI P n < n := by
  induction n with
  | zero => exact ⟨Int.le_refl (-1), by show (-1 : Int) < 0; decide⟩
  | succ n ih =>
    unfold lastI
    cases dc (P n) with
    | true => rw [cond_true]; omega
    | false => rw [cond_false]; omega
theorem lastI_yes (P : Int → Prop) (n : Nat) (h : 0 ≤ lastI P n) : P (lastI P n) := by
  induction n with
  | zero => exact absurd (show (0 : Int) ≤ -1 from h) (by decide)
  | succ n ih =>
    unfold lastI at h ⊢
    by_cases hp : P n
    · rw [dc_t hp]; exact hp
    · rw [dc_f hp] at h ⊢; exact ih h
theorem lastI_no (P : Int → Prop) (n : Nat) : 0 ≤ lastI P n ↔ ∃ q : Nat, q < n ∧ P q := by
  induction n with
  | zero => exact ⟨fun h => absurd (show (0 : Int) ≤ -1 from h) (by decide), fun ⟨q, h, _⟩ => absurd h (by omega)⟩
  | succ n ih =>
    unfold lastI
    by_cases hp : P n
    · rw [dc_t hp]; exact ⟨fun _ => ⟨n, by omega, hp⟩, fun _ => by rw [cond_true]; omega⟩
    · rw [dc_f hp, cond_false, ih]
      refine ⟨fun ⟨q, h1, h2⟩ => ⟨q, by omega, h2⟩, fun ⟨q, h1, h2⟩ => ⟨q, ?_, h2⟩⟩
      by_cases e : q = n
      · rw [e] at h2; exact absurd h2 hp
      · omega
theorem lastI_congr {P Q : Int → Prop} (n : Nat) (h : ∀ q : Nat, q < n → (P q ↔ Q q)) : lastI P n = lastI Q n := by
  induction n with
  | zero => rfl
  | succ n ih => unfold lastI; rw [dc_congr (h n (by omega)), ih (fun q hq => h q (by omega))]
theorem loopDown {R : Type} (f : Nat → Int → Option R) (N : Nat) (P : Int → Prop) (yes : Int → Option R) (no : Option R)
    (hy : ∀ j (i : Nat), i < N → P i → f (j + 1) i = yes i) (hn : ∀ j (i : Nat), i < N → ¬ P i → f (j + 1) i = f j (i - 1)) (he : ∀ j, f (j + 1) (-1) = no) :
    ∀ n j, n ≤ N → n < j → f j (n - 1) = bif decide (0 ≤ lastI P n) then yes (lastI P n) else no := by
  intro n
  induction n with
  | zero =>
    intro j _ hj
    obtain ⟨j, rfl⟩ : ∃ u, j = u + 1 := ⟨j - 1, by omega⟩
    exact he j
  | succ n ih =>
    intro j hN hj
    obtain ⟨j, rfl⟩ : ∃ u, j = u + 1 := ⟨j - 1, by omega⟩
    rw [show ((n + 1 : Nat) : Int) - 1 = (n : Int) by omega]
    unfold lastI
    by_cases hp : P n
    · rw [hy j n (by omega) hp, dc_t hp, cond_true, decide_eq_true (by omega)]; rfl
    · rw [hn j n (by omega) hp, dc_f hp, cond_false]; exact ih j (by omega) (by omega)
/-- a state that is carried along -/
def foldI {S : Type} (g : Int → S → S) : Nat → Int → S → S
  | 0, _, s => s
  | n + 1, i, s => foldI g n (i + 1) (g i s)
theorem loopFold {R S : Type} (f : Nat → S → Int → Option R) (lo to : Int) (g : Int → S → S) (e : S → Option R)
    (hs : ∀ j s i, lo ≤ i → i < to → f (j + 1) s i = f j (g i s) (i + 1)) (he : ∀ j s i, lo ≤ i → to ≤ i → f (j + 1) s i = e s) :
    ∀ n j s i, lo ≤ i → (to - i).toNat = n → n < j → f j s i = e (foldI g n i s) := by
  intro n
  induction n with
  | zero =>
    intro j s i hl h hj
    obtain ⟨j, rfl⟩ : ∃ u, j = u + 1 := ⟨j - 1, by omega⟩
    exact he j s i hl (by omega)
  | succ n ih =>
    intro j s i hl h hj
    obtain ⟨j, rfl⟩ : ∃ u, j = u + 1 := ⟨j - 1, by omega⟩
    rw [hs j s i hl (by omega), ih j _ _ (by omega) (by omega) (by omega)]; rfl
theorem foldI_and (P : Int → Prop) : ∀ n i a, foldI (fun i a => a && dc (P i)) n i a = (a && dc (∀ q, i ≤ q → q < i + (n : Nat) → P q)) := by
  intro n
  induction n with
  | zero => intro i a; rw [dc_t (fun q h1 h2 => absurd h2 (by omega)), Bool.and_true]; rfl
  | succ n ih =>
    intro i a
    show foldI _ n (i + 1) (a && dc (P i)) = _
    rw [ih, Bool.and_assoc, dc_and]
    congr 1
    refine dc_congr ⟨fun ⟨h, h'⟩ q h1 h2 => ?_, fun h => ⟨h i (by omega) (by omega), fun q h1 h2 => h q (by omega) (by omega)⟩⟩
    by_cases e : q = i
    · rw [e]; exact h
    · exact h' q (by omega) (by omega)
theorem foldI_snoc {S : Type} (g : Int → S → S) : ∀ n i s, foldI g (n + 1) i s = g (i + (n : Nat)) (foldI g n i s) := by
  intro n
  induction n with
  | zero => intro i s; show g i s = g (i + 0) s; rw [Int.add_zero]
  | succ n ih =>
    intro i s
    show foldI g (n + 1) (i + 1) (g i s) = _
    rw [ih]
    show g (i + 1 + (n : Nat)) _ = g (i + ((n + 1 : Nat) : Int)) (foldI g n (i + 1) (g i s))
    congr 1; omega
theorem foldI_last (P : Int → Prop) (n : Nat) : foldI (fun i a => bif dc (P i) then i else a) n 0 (-1) = lastI P n := by
  induction n with
  | zero => rfl
  | succ n ih => rw [foldI_snoc, ih]; show _ = (bif dc (P n) then (n : Int) else lastI P n); rw [Int.zero_add]
/-! ### reading a list -/
def lat (L : List Int) (q : Int) : Int := L.getD q.toNat 0
theorem lat_some {L : List Int} {q : Int} (h0 : 0 ≤ q) (h1 : q < L.length) : L[q.toNat]? = some (lat L q) := by
  have h : q.toNat < L.length := by omega
  unfold lat
  rw [List.getD_eq_getElem?_getD, List.getElem?_eq_getElem h]; rfl
theorem lat_wf {L : List Int} {b : Bool} (h : Ty.wf (.sl (.int .i64)) (b, L)) (q : Int) (h0 : 0 ≤ q) (h1 : q < L.length) : -9223372036854775808 ≤ lat L q ∧ lat L q ≤ 9223372036854775807 := by
  have hm : lat L q ∈ L := by
    have h : q.toNat < L.length := by omega
    unfold lat
    rw [List.getD_eq_getElem?_getD, List.getElem?_eq_getElem h]; exact List.getElem_mem h
  exact wf_i64 (h.2.2 _ hm)
/-! ### where a block lies -/
def sl (d z r p : Int) : Int := ((z + r) % d + 1 + p) % d
theorem sl_lt {d : Int} (hd : 0 < d) (z r p : Int) : 0 ≤ sl d z r p ∧ sl d z r p < d := ⟨Int.emod_nonneg _ (by omega), Int.emod_lt_of_pos _ hd⟩
section
variable {a0 a1 a2 a3 a4 : Int}
theorem par_yes (k : Nat) (h : GG a0 a1 a2 a3 a4) {z r : Int} (t : 0 ≤ z ∧ z < a1 - 3 ∧ 0 ≤ r ∧ r < a2) : geom_Parity k a0 a1 a2 a3 a4 z r = some ((z + r) % a0) := by
  unfold geom_Parity
  rw [there_yes k h, decide_eq_true t]
  obtain ⟨h1, h2, h3, h4, h5, h6, _⟩ := h
  simp only [optb, Bool.not_true, cond_false]
  rw [decide_eq_false (show ¬ a0 = 0 by omega), cond_false, w64 (by omega) (by omega), tmod_pos (by omega)]
theorem block_row {d b rows : Int} (hd : 3 ≤ d) (hb : 0 ≤ b) (hc : b < (d - 1) * rows) : 0 ≤ b / (d - 1) ∧ b / (d - 1) < rows ∧ 0 ≤ b % (d - 1) ∧ b % (d - 1) < d - 1 := by
  refine ⟨Int.ediv_nonneg hb (by omega), Int.ediv_lt_of_lt_mul (by omega) ?_, Int.emod_nonneg _ (by omega), Int.emod_lt_of_pos _ (by omega)⟩
  rw [Int.mul_comm]; exact hc
theorem slot_par (k : Nat) (h : GG a0 a1 a2 a3 a4) {z r : Int} (t : 0 ≤ z ∧ z < a1 - 3 ∧ 0 ≤ r ∧ r < a2) {p : Int} (p0 : -1 ≤ p) (p1 : p < 1000) : Int.tmod (wrap64 (wrap64 ((z + r) % a0 + 1) + p)) a0 = sl a0 z r p := by
  obtain ⟨h1, h2, h3, h4, h5, h6, _⟩ := h
  have e0 := Int.emod_nonneg (z + r) (show a0 ≠ 0 by omega)
  have e1 := Int.emod_lt_of_pos (z + r) (show 0 < a0 by omega)
  rw [w64 (n := (z + r) % a0 + 1) (by omega) (by omega), w64 (by omega) (by omega), tmod_pos (by omega)]; rfl
end
/-! ### spots and lengths -/
theorem div_step {n c : Int} (hc : 0 < c) (h0 : 0 ≤ n) : (n % c + 1 < c ∧ (n + 1) / c = n / c ∧ (n + 1) % c = n % c + 1) ∨ (n % c + 1 = c ∧ (n + 1) / c = n / c + 1 ∧ (n + 1) % c = 0) := by
  have h1 := Int.emod_add_mul_ediv n c
  have h2 := Int.emod_nonneg n (show c ≠ 0 by omega)
  have h3 := Int.emod_lt_of_pos n hc
  rcases Int.lt_or_le (n % c + 1) c with hlt | hge
  · refine .inl ⟨hlt, ?_, ?_⟩
    · have e : n + 1 = (n % c + 1) + (n / c) * c := by rw [Int.mul_comm (n / c)]; omega
      rw [e, Int.add_mul_ediv_right _ _ (by omega), Int.ediv_eq_zero_of_lt (by omega) hlt]; omega
    · have e : n + 1 = (n % c + 1) + c * (n / c) := by omega
      conv => lhs; rw [e]
      rw [Int.add_mul_emod_self_left]; exact Int.emod_eq_of_lt (by omega) hlt
  · refine .inr ⟨by omega, ?_, ?_⟩
    · have e : n + 1 = 0 + (n / c + 1) * c := by rw [Int.add_mul, Int.one_mul, Int.mul_comm (n / c)]; omega
      rw [e, Int.add_mul_ediv_right _ _ (by omega)]; simp
    · have e : n + 1 = 0 + c * (n / c + 1) := by rw [Int.mul_add, Int.mul_one]; omega
      rw [e, Int.add_mul_emod_self_left]; simp

abbrev slotOf (d zone row k : Int) : Int := sl d zone row k
/-! ### what lies at a spot -/
def kOf (d p drive : Int) : Int := if p < drive then drive - p - 1 else drive - p - 1 + d
def sOf (d p k : Int) : Int := if p + 1 + k < d then p + 1 + k else p + 1 + k - d
theorem kOf_mod {d p drive : Int} (h0 : 0 ≤ p) (h1 : p < d) (h2 : 0 ≤ drive) (h3 : drive < d) (h4 : drive ≠ p) : (drive - p - 1 + d) % d = kOf d p drive := by
  unfold kOf
  split
  · rw [Int.add_emod_right]; exact Int.emod_eq_of_lt (by omega) (by omega)
  · exact Int.emod_eq_of_lt (by omega) (by omega)
theorem kOf_range {d p drive : Int} (h0 : 0 ≤ p) (h1 : p < d) (h2 : 0 ≤ drive) (h3 : drive < d) (h4 : drive ≠ p) : 0 ≤ kOf d p drive ∧ kOf d p drive ≤ d - 2 := by
  unfold kOf; split <;> omega
theorem sOf_mod {d p k : Int} (h0 : 0 ≤ p) (h1 : p < d) (h2 : 0 ≤ k) (h3 : k ≤ d - 2) : (p + 1 + k) % d = sOf d p k := by
  unfold sOf
  split
  · exact Int.emod_eq_of_lt (by omega) (by omega)
  · rw [show p + 1 + k = (p + 1 + k - d) + d by omega, Int.add_emod_right, show p + 1 + k - d + d - d = p + 1 + k - d by omega]; exact Int.emod_eq_of_lt (by omega) (by omega)
theorem sOf_range {d p k : Int} (h0 : 0 ≤ p) (h1 : p < d) (h2 : 0 ≤ k) (h3 : k ≤ d - 2) : 0 ≤ sOf d p k ∧ sOf d p k < d ∧ sOf d p k ≠ p := by
  unfold sOf; split <;> omega
theorem sOf_kOf {d p drive : Int} (h0 : 0 ≤ p) (h1 : p < d) (h2 : 0 ≤ drive) (h3 : drive < d) (h4 : drive ≠ p) : sOf d p (kOf d p drive) = drive := by
  unfold sOf kOf; split <;> split <;> omega
theorem kOf_sOf {d p k : Int} (h0 : 0 ≤ p) (h1 : p < d) (h2 : 0 ≤ k) (h3 : k ≤ d - 2) : kOf d p (sOf d p k) = k := by
  unfold sOf kOf; split <;> split <;> omega
theorem par_range (d zone row : Int) (hd : 3 ≤ d) : 0 ≤ (zone + row) % d ∧ (zone + row) % d < d := ⟨Int.emod_nonneg _ (by omega), Int.emod_lt_of_pos _ (by omega)⟩

theorem slotOf_eq {d zone row k : Int} (hd : 3 ≤ d) (h2 : 0 ≤ k) (h3 : k ≤ d - 2) : slotOf d zone row k = sOf d ((zone + row) % d) k :=
  sOf_mod (par_range d zone row hd).1 (par_range d zone row hd).2 h2 h3

theorem mul_row {d b row : Int} (hd : 3 ≤ d) (h0 : 0 ≤ row) (h1 : row ≤ b - 1) : 0 ≤ row * (d - 1) ∧ row * (d - 1) ≤ (d - 1) * b - (d - 1) := by
  refine ⟨Int.mul_nonneg h0 (by omega), ?_⟩
  have := Int.mul_le_mul_of_nonneg_right h1 (show 0 ≤ d - 1 by omega)
  rw [Int.sub_mul, Int.one_mul, Int.mul_comm b] at this
  exact this
theorem row_div {d row k : Int} (hd : 3 ≤ d) (h2 : 0 ≤ k) (h3 : k ≤ d - 2) : (row * (d - 1) + k) / (d - 1) = row ∧ (row * (d - 1) + k) % (d - 1) = k := by
  constructor
  · rw [Int.add_comm, Int.add_mul_ediv_right _ _ (by omega), Int.ediv_eq_zero_of_lt h2 (by omega)]; omega
  · rw [Int.add_comm, Int.add_mul_emod_self_right]; exact Int.emod_eq_of_lt h2 (by omega)

/-! ### how many blocks a slot has of a zone -/
def lenV (d zone n s : Int) : Int := n / (d - 1) + (if s ≠ (zone + n / (d - 1)) % d ∧ kOf d ((zone + n / (d - 1)) % d) s < n % (d - 1) then 1 else 0)
theorem lenV_step {d zone n s : Int} (hd : 3 ≤ d) (hn : 0 ≤ n) (h0 : 0 ≤ s) (h1 : s < d) :
    lenV d zone (n + 1) s = lenV d zone n s + (if s = slotOf d zone (n / (d - 1)) (n % (d - 1)) then 1 else 0) + (if n % (d - 1) = d - 2 ∧ s = (zone + n / (d - 1)) % d then 1 else 0) := by
  have hp := par_range d zone (n / (d - 1)) hd
  have hm0 := Int.emod_nonneg n (show d - 1 ≠ 0 by omega)
  have hm1 := Int.emod_lt_of_pos n (show 0 < d - 1 by omega)
  have hs : slotOf d zone (n / (d - 1)) (n % (d - 1)) = sOf d ((zone + n / (d - 1)) % d) (n % (d - 1)) := slotOf_eq hd hm0 (by omega)
  have hsr := sOf_range hp.1 hp.2 hm0 (show n % (d - 1) ≤ d - 2 by omega)
  rw [hs]
  unfold lenV
  generalize hpp : (zone + n / (d - 1)) % d = p at hp hsr ⊢
  generalize hr : n % (d - 1) = r at hm0 hm1 hsr ⊢
  have hk : s ≠ p → (s = sOf d p r ↔ kOf d p s = r) := by
    intro hne
    constructor
    · rintro rfl; exact kOf_sOf hp.1 hp.2 hm0 (by omega)
    · rintro h; rw [← h]; exact (sOf_kOf hp.1 hp.2 h0 h1 hne).symm
  rcases div_step (n := n) (c := d - 1) (by omega) hn with ⟨e1, e2, e3⟩ | ⟨e1, e2, e3⟩
  · rw [e2, e3, hpp, hr]
    rw [hr] at e1
    by_cases hsp : s = p
    · subst hsp
      rw [if_neg (by omega), if_neg (by omega), if_neg (by omega), if_neg (by omega)]; omega
    · have hk2 := hk hsp
      by_cases hkr : kOf d p s < r
      · rw [if_pos ⟨hsp, by omega⟩, if_pos ⟨hsp, hkr⟩, if_neg (by omega), if_neg (by omega)]; omega
      · by_cases hke : kOf d p s = r
        · rw [if_pos ⟨hsp, by omega⟩, if_neg (by omega), if_pos (hk2.2 hke), if_neg (by omega)]; omega
        · rw [if_neg (by omega), if_neg (by omega), if_neg (fun h => hke (hk2.1 h)), if_neg (by omega)]; simp
  · rw [e2, e3]
    rw [hr] at e1
    have hnn : ¬ (s ≠ (zone + (n / (d - 1) + 1)) % d ∧ kOf d ((zone + (n / (d - 1) + 1)) % d) s < 0) := by
      rintro ⟨h2, h3⟩
      have hp' := par_range d zone (n / (d - 1) + 1) hd
      have := kOf_range hp'.1 hp'.2 h0 h1 h2
      omega
    rw [if_neg hnn]
    by_cases hsp : s = p
    · subst hsp
      rw [if_neg (by omega), if_neg (by omega), if_pos ⟨by omega, rfl⟩]; omega
    · have hk2 := hk hsp
      have hkr := kOf_range hp.1 hp.2 h0 h1 hsp
      by_cases hke : kOf d p s = r
      · rw [if_neg (by omega), if_pos (hk2.2 hke), if_neg (by omega)]; omega
      · rw [if_pos ⟨hsp, by omega⟩, if_neg (fun h => hke (hk2.1 h)), if_neg (by omega)]; omega
theorem lenV_zero {d zone s : Int} (hd : 3 ≤ d) (h0 : 0 ≤ s) (h1 : s < d) : lenV d zone 0 s = 0 := by
  unfold lenV
  have hp := par_range d zone (0 / (d - 1)) hd
  rw [if_neg]
  · simp
  · rintro ⟨h2, h3⟩
    have := kOf_range hp.1 hp.2 h0 h1 h2
    simp at h3
    simp at this
    omega
/-- What Lengths tells: one number a slot. -/
def lensL (d zone n : Int) : List Int := (List.range d.toNat).map fun s : Nat => lenV d zone n (s : Int)
theorem lensL_length {d : Int} (hd : 0 ≤ d) (zone n : Int) : ((lensL d zone n).length : Int) = d := by simp [lensL]; omega
theorem lensL_at {d zone n s : Int} (h0 : 0 ≤ s) (h1 : s < d) : lat (lensL d zone n) s = lenV d zone n s := by
  unfold lat lensL
  rw [List.getD_eq_getElem?_getD, List.getElem?_map, List.getElem?_range (by omega)]
  simp [show ((s.toNat : Nat) : Int) = s by omega]
theorem lat_ext {L M : List Int} (hl : L.length = M.length) (h : ∀ q : Int, 0 ≤ q → q < L.length → lat L q = lat M q) : L = M := by
  apply List.ext_getElem hl
  intro i h1 h2
  have := h i (by omega) (by omega)
  unfold lat at this
  rw [Int.toNat_natCast, List.getD_eq_getElem?_getD, List.getD_eq_getElem?_getD, List.getElem?_eq_getElem h1, List.getElem?_eq_getElem h2] at this
  exact this
theorem lat_set {L : List Int} {i : Int} (h0 : 0 ≤ i) (hi : i < L.length) (v : Int) {q : Int} (hq : 0 ≤ q) : lat (L.set i.toNat v) q = if q = i then v else lat L q := by
  unfold lat
  rw [List.getD_eq_getElem?_getD, List.getD_eq_getElem?_getD, List.getElem?_set]
  by_cases e : q = i
  · rw [if_pos e, if_pos (by omega), if_pos (by omega)]; rfl
  · rw [if_neg e, if_neg (by omega)]
theorem lat_rep (n : Nat) (q : Int) : lat (List.replicate n 0) q = 0 := by
  unfold lat
  rw [List.getD_eq_getElem?_getD, List.getElem?_replicate]
  split <;> rfl
theorem lenV_bounds {a0 a1 a2 a3 a4 : Int} (h : GG a0 a1 a2 a3 a4) {zone n s : Int} (hn0 : 0 ≤ n) (hn1 : n ≤ (a0 - 1) * a2) (h0 : 0 ≤ s) (h1 : s < a0) :
    0 ≤ n / (a0 - 1) ∧ n / (a0 - 1) ≤ lenV a0 zone n s ∧ lenV a0 zone n s ≤ n / (a0 - 1) + 1 ∧ lenV a0 zone n s ≤ a2 ∧ n / (a0 - 1) ≤ a2 := by
  have hg : 3 ≤ a0 ∧ a2 ≤ 256 := ⟨h.1, h.2.2.2.2.2.1⟩
  have hp := par_range a0 zone (n / (a0 - 1)) hg.1
  have hq0 := Int.ediv_nonneg hn0 (show 0 ≤ a0 - 1 by omega)
  have hb : n / (a0 - 1) ≤ a2 := by
    have := Int.ediv_le_ediv (show 0 < a0 - 1 by omega) hn1
    rwa [Int.mul_ediv_cancel_left _ (by omega)] at this
  have hm0 := Int.emod_nonneg n (show a0 - 1 ≠ 0 by omega)
  have hdm := Int.emod_add_mul_ediv n (a0 - 1)
  unfold lenV
  by_cases hc : s ≠ (zone + n / (a0 - 1)) % a0 ∧ kOf a0 ((zone + n / (a0 - 1)) % a0) s < n % (a0 - 1)
  · rw [if_pos hc]
    have hk := kOf_range hp.1 hp.2 h0 h1 hc.1
    have : n / (a0 - 1) ≠ a2 := by
      intro e
      rw [e] at hdm
      omega
    omega
  · rw [if_neg hc]; omega
/-! ### what a spot holds, and what Lengths says -/
section
variable {a0 a1 a2 a3 a4 : Int}
theorem par_out (k : Nat) {z r : Int} (t : ¬ (GG a0 a1 a2 a3 a4 ∧ 0 ≤ z ∧ z < a1 - 3 ∧ 0 ≤ r ∧ r < a2)) : geom_Parity k a0 a1 a2 a3 a4 z r = some (-1) := by
  unfold geom_Parity
  by_cases g : GG a0 a1 a2 a3 a4
  · rw [there_yes k g, decide_eq_false (fun x => t ⟨g, x⟩)]; rfl
  · rw [there_no k g]; rfl
theorem back_in (k : Nat) (g : GG a0 a1 a2 a3 a4) {z r s : Int} (t : 0 ≤ z ∧ z < a1 - 3 ∧ 0 ≤ r ∧ r < a2) (s0 : 0 ≤ s) (s1 : s < a0) (h : s ≠ (z + r) % a0) :
    geom_Back k a0 a1 a2 a3 a4 z r s = some (r * (a0 - 1) + kOf a0 ((z + r) % a0) s, true) := by
  have g' := g
  obtain ⟨h1, h2, h3, h4, h5, h6, _⟩ := g'
  have hp := par_range a0 z r h1
  have hk := kOf_range hp.1 hp.2 s0 s1 h
  have hm := mul_row (d := a0) (b := a2) (row := r) h1 t.2.2.1 (by omega)
  have hc := cap_bound g
  unfold geom_Back
  rw [par_yes k g t]
  simp only [optb]
  rw [decide_eq_false (show ¬ (z + r) % a0 < 0 by omega), cond_false, decide_eq_false (show ¬ (z + r) % a0 = s from fun x => h x.symm), cond_false, within_val]
  simp only [optb]
  rw [w64 (n := a0 - 1) (by omega) (by omega), decide_eq_true (show 0 ≤ s ∧ s ≤ a0 - 1 by omega)]
  simp only [Bool.not_true, geom_Back_j0, geom_Back_k1, geom_Back_j1, cond_false]
  rw [decide_eq_false (show ¬ a0 = 0 by omega), cond_false, w64 (n := a0 - 1) (by omega) (by omega), w64 (n := s - (z + r) % a0) (by omega) (by omega), w64 (n := s - (z + r) % a0 - 1) (by omega) (by omega), w64 (n := s - (z + r) % a0 - 1 + a0) (by omega) (by omega), tmod_pos (by omega), kOf_mod hp.1 hp.2 s0 s1 h, w64 (n := r * (a0 - 1)) (by omega) (by omega), w64 (by omega) (by omega)]
theorem back_par (k : Nat) (g : GG a0 a1 a2 a3 a4) {z r : Int} (t : 0 ≤ z ∧ z < a1 - 3 ∧ 0 ≤ r ∧ r < a2) : geom_Back k a0 a1 a2 a3 a4 z r ((z + r) % a0) = some (0, false) := by
  have hp := par_range a0 z r g.1
  unfold geom_Back
  rw [par_yes k g t]
  simp only [optb, decide_true, cond_true]
  rw [decide_eq_false (show ¬ (z + r) % a0 < 0 by omega)]; rfl
theorem back_out (k : Nat) {z r : Int} (t : ¬ (GG a0 a1 a2 a3 a4 ∧ 0 ≤ z ∧ z < a1 - 3 ∧ 0 ≤ r ∧ r < a2)) (s : Int) : geom_Back k a0 a1 a2 a3 a4 z r s = some (0, false) := by
  unfold geom_Back
  rw [par_out k t]; rfl
theorem back_lt (k : Nat) (g : GG a0 a1 a2 a3 a4) {z n s : Int} (z0 : 0 ≤ z) (z1 : z < a1 - 3) (n0 : 0 ≤ n) (n1 : n ≤ (a0 - 1) * a2) (s0 : 0 ≤ s) (s1 : s < a0) :
    ∃ x, geom_Back k a0 a1 a2 a3 a4 z (n / (a0 - 1)) s = some x ∧ (lenV a0 z n s = if x.2 = true ∧ x.1 < n then n / (a0 - 1) + 1 else n / (a0 - 1)) := by
  have h1 := g.1
  have hp := par_range a0 z (n / (a0 - 1)) (by omega)
  have hm0 := Int.emod_nonneg n (show a0 - 1 ≠ 0 by omega)
  have hdm := Int.emod_add_mul_ediv n (a0 - 1)
  have hb := (lenV_bounds g (zone := z) n0 n1 s0 s1)
  rw [Int.mul_comm] at hdm
  unfold lenV
  by_cases hr : n / (a0 - 1) < a2
  · have t : 0 ≤ z ∧ z < a1 - 3 ∧ 0 ≤ n / (a0 - 1) ∧ n / (a0 - 1) < a2 := ⟨z0, z1, hb.1, hr⟩
    by_cases hs : s = (z + n / (a0 - 1)) % a0
    · refine ⟨_, by rw [hs]; exact back_par k g t, ?_⟩
      rw [if_neg (by omega), if_neg (by simp)]; omega
    · refine ⟨_, back_in k g t s0 s1 hs, ?_⟩
      by_cases hk : kOf a0 ((z + n / (a0 - 1)) % a0) s < n % (a0 - 1)
      · rw [if_pos ⟨hs, hk⟩, if_pos ⟨rfl, by simp only; omega⟩]
      · rw [if_neg (by omega), if_neg (by simp only; omega)]; omega
  · refine ⟨_, back_out k (fun x => hr x.2.2.2.2) s, ?_⟩
    have hm : n % (a0 - 1) = 0 := by
      have e : n / (a0 - 1) = a2 := by omega
      rw [e, Int.mul_comm] at hdm
      omega
    have hno : ¬ (s ≠ (z + n / (a0 - 1)) % a0 ∧ kOf a0 ((z + n / (a0 - 1)) % a0) s < n % (a0 - 1)) := by
      rintro ⟨h2, h3⟩
      have := kOf_range hp.1 hp.2 s0 s1 h2
      omega
    rw [if_neg hno, if_neg (by simp)]; omega
theorem lengths_loop {R : Type} (e0 : List Int → Option R) (k : Nat) (g : GG a0 a1 a2 a3 a4) {z n : Int} (z0 : 0 ≤ z) (z1 : z < a1 - 3) (n0 : 0 ≤ n) (n1 : n ≤ (a0 - 1) * a2) : ∀ (m j : Nat) (i : Int) (out : List Int), 0 ≤ i → i ≤ a0 → (a0 - i).toNat = m → m < j → (out.length : Int) = a0 → (∀ q, 0 ≤ q → q < i → lat out q = lenV a0 z n q) →
    plan_Lengths_l1 e0 k z n (n / (a0 - 1)) a0 a0 a1 a2 a3 a4 j i out = e0 (lensL a0 z n) := by
  have hd := g.2.1
  intro m
  induction m with
  | zero =>
    intro j i out i0 i1 hm hj hl hq
    obtain ⟨j, rfl⟩ : ∃ u, j = u + 1 := ⟨j - 1, by omega⟩
    rw [plan_Lengths_l1]; unfold plan_Lengths_l1s
    rw [decide_eq_false (by omega), cond_false]
    congr 1
    have h2 := lensL_length (d := a0) (by omega) z n
    refine lat_ext (by omega) (fun q q0 q1 => ?_)
    rw [lensL_at q0 (by omega)]; exact hq q q0 (by omega)
  | succ m ih =>
    intro j i out i0 i1 hm hj hl hq
    obtain ⟨j, rfl⟩ : ∃ u, j = u + 1 := ⟨j - 1, by omega⟩
    obtain ⟨x, hx, hv⟩ := back_lt k g z0 z1 n0 n1 i0 (show i < a0 by omega)
    have hb := lenV_bounds g (zone := z) n0 n1 i0 (show i < a0 by omega)
    have h6 := g.2.2.2.2.2.1
    rw [plan_Lengths_l1]; unfold plan_Lengths_l1s plan_Lengths_j2 plan_Lengths_k2 plan_Lengths_j3
    rw [decide_eq_true (show i < a0 by omega), cond_true, lenI_eq, decide_eq_true i0, decide_eq_true (show i < (out.length : Int) by omega), lat_some i0 (by omega)]
    simp only [Bool.and_self, cond_true, optb]
    rw [hx]
    simp only [lenI_eq]
    have hls : ((out.set i.toNat (n / (a0 - 1))).length : Int) = a0 := by rw [List.length_set]; exact hl
    have hw : wrap64 (i + 1) = i + 1 := w64 (by omega) (by omega)
    by_cases hc : x.2 = true ∧ x.1 < n
    · rw [if_pos hc] at hv
      rw [hc.1, decide_eq_true hc.2, cond_true, cond_true, decide_eq_true (show i < ((out.set i.toNat (n / (a0 - 1))).length : Int) by omega), lat_some i0 (by omega)]
      simp only [Bool.and_self, cond_true]
      have e1 : lat (out.set i.toNat (n / (a0 - 1))) i = n / (a0 - 1) := by rw [lat_set i0 (by omega) _ i0, if_pos rfl]
      rw [e1, hw, w64 (n := n / (a0 - 1) + 1) (by omega) (by omega)]
      refine ih j (i + 1) _ (by omega) (by omega) (by omega) (by omega) (by rw [List.length_set]; exact hls) (fun q q0 q1 => ?_)
      rw [lat_set i0 (by omega) _ q0]
      by_cases e : q = i
      · rw [if_pos e, e, hv]
      · rw [if_neg e, lat_set i0 (by omega) _ q0, if_neg e]; exact hq q q0 (by omega)
    · rw [if_neg hc] at hv
      have hgo : plan_Lengths_l1 e0 k z n (n / (a0 - 1)) a0 a0 a1 a2 a3 a4 j (i + 1) (out.set i.toNat (n / (a0 - 1))) = e0 (lensL a0 z n) := by
        refine ih j (i + 1) _ (by omega) (by omega) (by omega) (by omega) hls (fun q q0 q1 => ?_)
        rw [lat_set i0 (by omega) _ q0]
        by_cases e : q = i
        · rw [if_pos e, e, hv]
        · rw [if_neg e]; exact hq q q0 (by omega)
      cases h2 : x.2 with
      | true => rw [decide_eq_false (fun y => hc ⟨h2, y⟩), cond_true, cond_false, hw]; exact hgo
      | false => rw [cond_false, cond_false, hw]; exact hgo
def InZN (a0 a1 a2 z n : Int) : Prop := 0 ≤ z ∧ z < a1 - 3 ∧ 0 ≤ n ∧ n ≤ (a0 - 1) * a2
theorem lengths_in (k : Nat) (hk : 100 ≤ k) (g : GG a0 a1 a2 a3 a4) {z n : Int} (h : InZN a0 a1 a2 z n) : plan_Lengths k a0 a1 a2 a3 a4 z n = some (false, lensL a0 z n) := by
  obtain ⟨z0, z1, n0, n1⟩ := h
  have hd := g.1
  have hd' := g.2.1
  have hc := cap_bound g
  unfold plan_Lengths
  rw [good_val, decide_eq_true g, zones_yes k g, cap_yes k g]
  simp only [optb, Bool.not_true, cond_false]
  rw [decide_eq_false (show ¬ z < 0 by omega), cond_false, decide_eq_false (show ¬ a1 - 3 ≤ z by omega), cond_false, decide_eq_false (show ¬ n < 0 by omega), cond_false, decide_eq_false (show ¬ (a0 - 1) * a2 < n by omega)]
  simp only [plan_Lengths_j0, plan_Lengths_k1, cond_false]
  have hr := lenV_bounds g (zone := z) n0 n1 (Int.le_refl 0) (show 0 < a0 by omega)
  have h6 := g.2.2.2.2.2.1
  rw [decide_eq_true (show 0 ≤ a0 by omega), decide_eq_true (Int.le_refl a0), decide_eq_true (show a0 ≤ 1099511627776 by omega), w64 (n := a0 - 1) (by omega) (by omega), decide_eq_false (show ¬ a0 - 1 = 0 by omega), tdiv_pos n0, w64 (n := n / (a0 - 1)) (by omega) (by omega), lenI_eq, List.length_replicate, show ((a0.toNat : Nat) : Int) = a0 by omega]
  simp only [Bool.and_self, cond_true, cond_false]
  exact lengths_loop _ k g z0 z1 n0 n1 _ k 0 _ (Int.le_refl 0) (by omega) rfl (by omega) (by rw [List.length_replicate]; omega) (fun q q0 q1 => absurd q1 (by omega))
theorem lengths_out (k : Nat) {z n : Int} (h : ¬ (GG a0 a1 a2 a3 a4 ∧ InZN a0 a1 a2 z n)) : plan_Lengths k a0 a1 a2 a3 a4 z n = some (true, []) := by
  unfold plan_Lengths
  rw [good_val]
  by_cases g : GG a0 a1 a2 a3 a4
  · rw [decide_eq_true g, zones_yes k g, cap_yes k g]
    simp only [optb, Bool.not_true, cond_false]
    by_cases h1 : z < 0
    · rw [decide_eq_true h1]; rfl
    rw [decide_eq_false h1, cond_false]
    by_cases h2 : a1 - 3 ≤ z
    · rw [decide_eq_true h2]; rfl
    rw [decide_eq_false h2, cond_false]
    by_cases h3 : n < 0
    · rw [decide_eq_true h3]; rfl
    rw [decide_eq_false h3, cond_false, decide_eq_true (show (a0 - 1) * a2 < n by have : ¬ InZN a0 a1 a2 z n := fun x => h ⟨g, x⟩; unfold InZN at this; omega)]; rfl
  · rw [decide_eq_false g]; rfl
end
/-! ### rows, blocks and lengths -/
/-- one and the same row, or an earlier one -/
theorem row_le {d b n : Int} (hd : 3 ≤ d) (h : b ≤ n) : b / (d - 1) ≤ n / (d - 1) ∧ (b / (d - 1) = n / (d - 1) → b % (d - 1) ≤ n % (d - 1) ∧ (b < n → b % (d - 1) < n % (d - 1))) := by
  have h1 := Int.emod_add_mul_ediv b (d - 1)
  have h2 := Int.emod_add_mul_ediv n (d - 1)
  refine ⟨Int.ediv_le_ediv (by omega) h, fun e => ?_⟩
  rw [e] at h1
  exact ⟨by omega, fun _ => by omega⟩
theorem at_slot {d z b : Int} (hd : 3 ≤ d) (b0 : 0 ≤ b) : sl d z (b / (d - 1)) (b % (d - 1)) ≠ (z + b / (d - 1)) % d ∧ kOf d ((z + b / (d - 1)) % d) (sl d z (b / (d - 1)) (b % (d - 1))) = b % (d - 1) := by
  have hp := par_range d z (b / (d - 1)) hd
  have m0 := Int.emod_nonneg b (show d - 1 ≠ 0 by omega)
  have m1 := Int.emod_lt_of_pos b (show 0 < d - 1 by omega)
  have hs : sl d z (b / (d - 1)) (b % (d - 1)) = sOf d ((z + b / (d - 1)) % d) (b % (d - 1)) := slotOf_eq hd m0 (by omega)
  rw [hs]
  exact ⟨(sOf_range hp.1 hp.2 m0 (by omega)).2.2, kOf_sOf hp.1 hp.2 m0 (by omega)⟩
theorem lenV_is (d z n s : Int) : n / (d - 1) ≤ lenV d z n s ∧ lenV d z n s ≤ n / (d - 1) + 1 := by
  unfold lenV
  split <;> omega
theorem written {d z b n : Int} (hd : 3 ≤ d) (b0 : 0 ≤ b) (h : b < n) : b / (d - 1) < lenV d z n (sl d z (b / (d - 1)) (b % (d - 1))) := by
  have hr := row_le hd (show b ≤ n by omega)
  have ha := at_slot (z := z) hd b0
  have hl := lenV_is d z n (sl d z (b / (d - 1)) (b % (d - 1)))
  by_cases e : b / (d - 1) = n / (d - 1)
  · have h2 := (hr.2 e).2 h
    unfold lenV
    rw [← e, if_pos ⟨ha.1, by rw [ha.2]; exact h2⟩]; omega
  · omega
theorem unwritten {d z b n : Int} (hd : 3 ≤ d) (b0 : 0 ≤ b) (h : n ≤ b) : lenV d z n (sl d z (b / (d - 1)) (b % (d - 1))) ≤ b / (d - 1) := by
  have hr := row_le hd h
  have ha := at_slot (z := z) hd b0
  have hl := lenV_is d z n (sl d z (b / (d - 1)) (b % (d - 1)))
  by_cases e : n / (d - 1) = b / (d - 1)
  · have h2 := (hr.2 e).1
    unfold lenV
    rw [e, if_neg (fun x => by rw [ha.2] at x; omega)]; omega
  · omega
theorem parity_un {d z r n : Int} (h : n / (d - 1) ≤ r) : lenV d z n ((z + r) % d) ≤ r := by
  have hl := lenV_is d z n ((z + r) % d)
  by_cases e : n / (d - 1) = r
  · unfold lenV
    rw [e, if_neg (fun x => x.1 rfl)]; omega
  · omega
/-- what lies at a spot -/
theorem spot {d z s r : Int} (hd : 3 ≤ d) (s0 : 0 ≤ s) (s1 : s < d) (r0 : 0 ≤ r) (h : s ≠ (z + r) % d) : ∃ b, 0 ≤ b ∧ b / (d - 1) = r ∧ sl d z (b / (d - 1)) (b % (d - 1)) = s := by
  have hp := par_range d z r hd
  have hk := kOf_range hp.1 hp.2 s0 s1 h
  have hr := row_div (row := r) hd hk.1 hk.2
  refine ⟨r * (d - 1) + kOf d ((z + r) % d) s, ?_, hr.1, ?_⟩
  · have := Int.mul_nonneg r0 (show 0 ≤ d - 1 by omega); omega
  · rw [hr.1, hr.2]
    have hs : sl d z r (kOf d ((z + r) % d) s) = sOf d ((z + r) % d) (kOf d ((z + r) % d) s) := slotOf_eq hd hk.1 hk.2
    rw [hs]; exact sOf_kOf hp.1 hp.2 s0 s1 h
/-! ### counting -/
noncomputable def cntI (P : Int → Prop) : Nat → Int
  | 0 => 0
  | n + 1 => cntI P n + (bif dc (P n) then 1 else 0)
theorem cntI_congr {P Q : Int → Prop} (n : Nat) (h : ∀ q : Nat, q < n → (P q ↔ Q q)) : cntI P n = cntI Q n := by
  induction n with
  | zero => rfl
  | succ n ih => unfold cntI; rw [dc_congr (h n (by omega)), ih (fun q hq => h q (by omega))]
theorem cntI_more {P Q : Int → Prop} {r : Int} (r0 : 0 ≤ r) (hr : ¬ P r) (n : Nat) (h : ∀ q : Nat, q < n → (Q q ↔ P q ∨ (q : Int) = r)) : cntI Q n = cntI P n + (if r < n then 1 else 0) := by
  induction n with
  | zero => rw [if_neg (by omega)]; rfl
  | succ n ih =>
    unfold cntI
    rw [ih (fun q hq => h q (by omega))]
    by_cases e : (n : Int) = r
    · have hq : Q n := (h n (by omega)).2 (.inr e)
      have hp : ¬ P n := by rw [e]; exact hr
      rw [dc_t hq, dc_f hp, cond_true, cond_false, if_neg (by omega), if_pos (by omega)]
    · have hq : Q n ↔ P n := ⟨fun x => ((h n (by omega)).1 x).resolve_right e, fun x => (h n (by omega)).2 (.inl x)⟩
      rw [dc_congr hq]
      by_cases c : r < n
      · rw [if_pos c, if_pos (by omega)]; omega
      · rw [if_neg c, if_neg (by omega)]; omega
theorem cntI_lt {P : Int → Prop} (m n : Nat) (hm : m ≤ n) (h : ∀ q : Nat, q < n → (P q ↔ q < m)) : cntI P n = m := by
  induction n generalizing m with
  | zero => have : m = 0 := by omega
            subst this; rfl
  | succ n ih =>
    unfold cntI
    by_cases e : m = n + 1
    · subst e
      rw [ih n (Nat.le_refl n) (fun q hq => ⟨fun _ => hq, fun _ => (h q (by omega)).2 (by omega)⟩), dc_t ((h n (by omega)).2 (by omega)), cond_true]; omega
    · rw [ih m (by omega) (fun q hq => h q (by omega)), dc_f (fun x => by have := (h n (by omega)).1 x; omega), cond_false]; omega
/-! ### the tasks of a slot's drive -/
abbrev Tk := Int × (Bool × Int)
section
variable {a0 a1 a2 a3 a4 : Int}
theorem back_some (k : Nat) (g : GG a0 a1 a2 a3 a4) {z r s : Int} (t : 0 ≤ z ∧ z < a1 - 3 ∧ 0 ≤ r ∧ r < a2) (s0 : 0 ≤ s) (s1 : s < a0) : ∃ x, geom_Back k a0 a1 a2 a3 a4 z r s = some x := by
  by_cases h : s = (z + r) % a0
  · exact ⟨_, by rw [h]; exact back_par k g t⟩
  · exact ⟨_, back_in k g t s0 s1 h⟩
theorem tasks_loop {R : Type} (e0 : List Tk → Option R) (k : Nat) (g : GG a0 a1 a2 a3 a4) {z s v : Int} (z0 : 0 ≤ z) (z1 : z < a1 - 3) (s0 : 0 ≤ s) (s1 : s < a0) (v1 : v ≤ a2) :
    ∀ (m j : Nat) (i : Int) (out : List Tk), 0 ≤ i → i ≤ v → (v - i).toNat = m → m < j → (out.length : Int) = i → (∀ q : Int, 0 ≤ q → q < i → ∃ x, geom_Back k a0 a1 a2 a3 a4 z q s = some x ∧ out[q.toNat]? = some (q, !x.2, x.1)) →
      ∃ out', rebuild_Tasks_l1 e0 k z s v a0 a1 a2 a3 a4 j i out = e0 out' ∧ (out'.length : Int) = v ∧ ∀ q : Int, 0 ≤ q → q < v → ∃ x, geom_Back k a0 a1 a2 a3 a4 z q s = some x ∧ out'[q.toNat]? = some (q, !x.2, x.1) := by
  have h6 := g.2.2.2.2.2.1
  intro m
  induction m with
  | zero =>
    intro j i out i0 i1 hm hj hl hq
    obtain ⟨j, rfl⟩ : ∃ u, j = u + 1 := ⟨j - 1, by omega⟩
    have : i = v := by omega
    subst this
    refine ⟨out, ?_, hl, hq⟩
    rw [rebuild_Tasks_l1]; unfold rebuild_Tasks_l1s
    rw [decide_eq_false (by omega), cond_false]
  | succ m ih =>
    intro j i out i0 i1 hm hj hl hq
    obtain ⟨j, rfl⟩ : ∃ u, j = u + 1 := ⟨j - 1, by omega⟩
    obtain ⟨x, hx⟩ := back_some k g (z := z) (r := i) (s := s) ⟨z0, z1, i0, by omega⟩ s0 s1
    rw [rebuild_Tasks_l1]; unfold rebuild_Tasks_l1s
    rw [decide_eq_true (show i < v by omega), cond_true, hx, optb_some, decide_eq_true (by rw [List.length_singleton]; omega), cond_true, w64 (n := i + 1) (by omega) (by omega)]
    refine ih j (i + 1) _ (by omega) (by omega) (by omega) (by omega) (by rw [List.length_append, List.length_singleton]; omega) (fun q q0 q1 => ?_)
    by_cases e : q = i
    · subst e
      refine ⟨x, hx, ?_⟩
      rw [List.getElem?_append_right (by omega), show q.toNat - out.length = 0 by omega]; rfl
    · obtain ⟨y, h1, h2⟩ := hq q q0 (by omega)
      exact ⟨y, h1, by rw [List.getElem?_append_left (by omega)]; exact h2⟩
theorem tasks_in (k : Nat) (hk : 300 ≤ k) (g : GG a0 a1 a2 a3 a4) {z n s : Int} (z0 : 0 ≤ z) (z1 : z < a1 - 3) (n0 : 0 ≤ n) (n1 : n ≤ (a0 - 1) * a2) (s0 : 0 ≤ s) (s1 : s < a0) :
    ∃ out, rebuild_Tasks k a0 a1 a2 a3 a4 z n s = some (true, out) ∧ (out.length : Int) = lenV a0 z n s ∧ ∀ q : Int, 0 ≤ q → q < lenV a0 z n s → ∃ x, geom_Back k a0 a1 a2 a3 a4 z q s = some x ∧ out[q.toNat]? = some (q, !x.2, x.1) := by
  have hb := lenV_bounds g (zone := z) n0 n1 s0 s1
  have h6 := g.2.2.2.2.2.1
  have hl := lensL_length (show 0 ≤ a0 by omega) z n
  obtain ⟨out, h1, h2, h3⟩ := tasks_loop (R := Bool × List Tk) (fun out => some (true, out)) k g (z := z) (s := s) (v := lenV a0 z n s) z0 z1 s0 s1 (by omega) _ k 0 [] (Int.le_refl 0) (by omega) rfl (by omega) rfl (fun q q0 q1 => absurd q1 (by omega))
  refine ⟨out, ?_, h2, h3⟩
  unfold rebuild_Tasks
  rw [lengths_in k (by omega) g ⟨z0, z1, n0, n1⟩, optb_some]
  simp only
  rw [lenI_eq, decide_eq_false (show ¬ s < 0 by omega), cond_false, decide_eq_false (show ¬ ((lensL a0 z n).length : Int) ≤ s by omega)]
  unfold rebuild_Tasks_j0 rebuild_Tasks_k1
  rw [cond_false, lenI_eq, decide_eq_true s0, decide_eq_true (show s < ((lensL a0 z n).length : Int) by omega), Bool.and_self, cond_true, lat_some s0 (by omega), optb_some, lensL_at s0 s1]
  exact h1
theorem tasks_out (k : Nat) (hk : 300 ≤ k) {z n s : Int} (h : s < 0 ∨ a0 ≤ s ∨ ¬ (GG a0 a1 a2 a3 a4 ∧ InZN a0 a1 a2 z n)) (hs : 0 ≤ s ∨ s < 0) : rebuild_Tasks k a0 a1 a2 a3 a4 z n s = some (true, []) := by
  have hex : ∃ b L, plan_Lengths k a0 a1 a2 a3 a4 z n = some (b, L) ∧ (s < 0 ∨ (L.length : Int) ≤ s) := by
    by_cases hg : GG a0 a1 a2 a3 a4 ∧ InZN a0 a1 a2 z n
    · refine ⟨_, _, lengths_in k (by omega) hg.1 hg.2, ?_⟩
      have hl := lensL_length (show 0 ≤ a0 by have := hg.1.1; omega) z n
      rcases h with h | h | h
      · exact .inl h
      · exact .inr (by omega)
      · exact absurd hg h
    · refine ⟨_, _, lengths_out k hg, ?_⟩
      by_cases hn : s < 0
      · exact .inl hn
      · exact .inr (by rw [List.length_nil]; omega)
  obtain ⟨b, L, h1, h2⟩ := hex
  unfold rebuild_Tasks rebuild_Tasks_j0 rebuild_Tasks_k0
  rw [h1, optb_some, lenI_eq]
  by_cases hn : s < 0
  · rw [decide_eq_true hn]; rfl
  · rw [decide_eq_false hn, cond_false, decide_eq_true (h2.resolve_left hn)]; rfl
end
section
variable {a0 a1 a2 a3 a4 : Int}
/-- where a block lies -/
def sb (d z b : Int) : Int := sl d z (b / (d - 1)) (b % (d - 1))
def BB (d z n s row b : Int) : Prop := b < n ∧ (sb d z b < s ∨ (sb d z b = s ∧ b / (d - 1) < row))
def PP (d z s row i : Int) : Prop := (z + i) % d < s ∨ ((z + i) % d = s ∧ i < row)
structure Inv (a0 a2 z n s row : Int) (blocks par : Int) (seen : List Bool) : Prop where
  len : (seen.length : Int) = (a0 - 1) * a2
  at_ : ∀ b, 0 ≤ b → b < (a0 - 1) * a2 → seen[b.toNat]? = some (dc (BB a0 z n s row b))
  bl : blocks = cntI (BB a0 z n s row) ((a0 - 1) * a2).toNat
  pa : par = cntI (PP a0 z s row) (n / (a0 - 1)).toNat
theorem cntI_le (P : Int → Prop) (n : Nat) : 0 ≤ cntI P n ∧ cntI P n ≤ n := by
  induction n with
  | zero => exact ⟨Int.le_refl 0, Int.le_refl 0⟩
  | succ n ih =>
    unfold cntI
    cases dc (P n) with
    | true => rw [cond_true]; omega
    | false => rw [cond_false]; omega
theorem l2_val {R : Type} (e0 : Bool → Int → Int → List Bool → Option R) (e1 : Int → Int → List Bool → Option R) (k : Nat) (g : GG a0 a1 a2 a3 a4) {z n s : Int} (z0 : 0 ≤ z) (z1 : z < a1 - 3) (n0 : 0 ≤ n) (n1 : n ≤ (a0 - 1) * a2) (s0 : 0 ≤ s) (s1 : s < a0)
    (l : List Tk) (hl : (l.length : Int) = lenV a0 z n s) (hq : ∀ q : Int, 0 ≤ q → q < lenV a0 z n s → ∃ x, geom_Back k a0 a1 a2 a3 a4 z q s = some x ∧ l[q.toNat]? = some (q, !x.2, x.1)) :
    ∀ (m j : Nat) (i blocks par : Int) (seen : List Bool), 0 ≤ i → i ≤ lenV a0 z n s → (lenV a0 z n s - i).toNat = m → m < j → Inv a0 a2 z n s i blocks par seen →
      ∃ blocks' par' seen', corbellaw16_RebuildTasks_l2 e0 e1 k z n s a0 a1 a2 a3 a4 l j blocks par i seen = e1 blocks' par' seen' ∧ Inv a0 a2 z n s (lenV a0 z n s) blocks' par' seen' := by
  have hd := g.1
  have h2 := g.2.1
  have h6 := g.2.2.2.2.2.1
  have hcb := cap_bound g
  have hlb := lenV_bounds g (zone := z) n0 n1 s0 s1
  have hnd : 0 ≤ n / (a0 - 1) := Int.ediv_nonneg n0 (by omega)
  intro m
  induction m with
  | zero =>
    intro j i blocks par seen i0 i1 hm hj hi
    obtain ⟨j, rfl⟩ : ∃ u, j = u + 1 := ⟨j - 1, by omega⟩
    have e : i = lenV a0 z n s := by omega
    refine ⟨blocks, par, seen, ?_, e ▸ hi⟩
    rw [corbellaw16_RebuildTasks_l2]; unfold corbellaw16_RebuildTasks_l2s
    rw [lenI_eq, decide_eq_false (by omega), cond_false]
  | succ m ih =>
    intro j i blocks par seen i0 i1 hm hj hi
    obtain ⟨j, rfl⟩ : ∃ u, j = u + 1 := ⟨j - 1, by omega⟩
    have hil : i < lenV a0 z n s := by omega
    obtain ⟨x, hx, hlx⟩ := hq i i0 hil
    have cb := cntI_le (BB a0 z n s i) ((a0 - 1) * a2).toNat
    have cp := cntI_le (PP a0 z s i) (n / (a0 - 1)).toNat
    have hbl := hi.bl
    have hpa := hi.pa
    have hnn : n / (a0 - 1) ≤ n := Int.ediv_le_self _ n0
    have hp := par_range a0 z i hd
    have t : 0 ≤ z ∧ z < a1 - 3 ∧ 0 ≤ i ∧ i < a2 := ⟨z0, z1, i0, by omega⟩
    rw [corbellaw16_RebuildTasks_l2]; unfold corbellaw16_RebuildTasks_l2s
    rw [lenI_eq, decide_eq_true (show i < (l.length : Int) by omega), cond_true, hx, optb_some, decide_eq_true i0, Bool.and_self, cond_true, hlx, optb_some]
    simp only [decide_true, Bool.not_true, cond_false, cond_true]
    rw [optb_some, show ((!x.2) == x.2) = false by cases x.2 <;> rfl, cond_false, optb_some]
    simp only [decide_true, Bool.not_true]
    unfold corbellaw16_RebuildTasks_j3 corbellaw16_RebuildTasks_k3
    rw [cond_false, lenI_eq, decide_eq_true (show i < (l.length : Int) by omega), decide_eq_true i0, Bool.and_self, cond_true, hlx, optb_some]
    simp only
    by_cases hs : s = (z + i) % a0
    · -- the parity
      have hx' : x = (0, false) := by rw [hs, back_par k g t] at hx; exact (Option.some.inj hx).symm
      subst hx'
      simp only [Bool.not_false, cond_true]
      unfold corbellaw16_RebuildTasks_j5 corbellaw16_RebuildTasks_k4
      rw [w64 (n := par + 1) (by omega) (by omega), w64 (n := i + 1) (by omega) (by omega)]
      have hin : i < n / (a0 - 1) := by
        rcases Int.lt_or_le i (n / (a0 - 1)) with h | h
        · exact h
        · have := parity_un (z := z) h; rw [← hs] at this; omega
      refine ih j (i + 1) blocks (par + 1) seen (by omega) (by omega) (by omega) (by omega) ⟨hi.len, fun b b0 b1 => ?_, ?_, ?_⟩
      · rw [hi.at_ b b0 b1]
        congr 1
        refine dc_congr ⟨fun ⟨h1, h2⟩ => ⟨h1, h2.imp_right (fun h => ⟨h.1, by omega⟩)⟩, fun ⟨h1, h2⟩ => ⟨h1, h2.imp_right (fun h => ⟨h.1, ?_⟩)⟩⟩
        have ha := at_slot (z := z) hd b0
        have hne : b / (a0 - 1) ≠ i := fun e => by
          have h3 := h.1
          unfold sb at h3
          have h4 := ha.1
          rw [h3, e] at h4
          exact h4 hs
        omega
      · rw [hbl]
        refine cntI_congr _ (fun q hq => ⟨fun ⟨h1, h2⟩ => ⟨h1, h2.imp_right (fun h => ⟨h.1, by omega⟩)⟩, fun ⟨h1, h2⟩ => ⟨h1, h2.imp_right (fun h => ⟨h.1, ?_⟩)⟩⟩)
        have ha := at_slot (z := z) (b := (q : Int)) hd (by omega)
        have hne : (q : Int) / (a0 - 1) ≠ i := fun e => by
          have h3 := h.1
          unfold sb at h3
          have h4 := ha.1
          rw [h3, e] at h4
          exact h4 hs
        omega
      · rw [cntI_more (P := PP a0 z s i) (r := i) i0 (fun h => by
          rcases h with h | h
          · rw [← hs] at h; omega
          · omega) _ (fun q hq => ?_), if_pos (by omega), hpa]
        unfold PP
        constructor
        · rintro (h | h)
          · exact .inl (.inl h)
          · by_cases e : (q : Int) = i
            · exact .inr e
            · exact .inl (.inr ⟨h.1, by omega⟩)
        · rintro ((h | h) | h)
          · exact .inl h
          · exact .inr ⟨h.1, by omega⟩
          · exact .inr ⟨by rw [h]; exact hs.symm, by omega⟩
    · -- a block
      have hk := kOf_range hp.1 hp.2 s0 s1 hs
      have hx' : x = (i * (a0 - 1) + kOf a0 ((z + i) % a0) s, true) := by rw [back_in k g t s0 s1 hs] at hx; exact (Option.some.inj hx).symm
      subst hx'
      have hrd := row_div (row := i) hd hk.1 hk.2
      have hm0 := Int.mul_nonneg i0 (show 0 ≤ a0 - 1 by omega)
      have hsl : sl a0 z i (kOf a0 ((z + i) % a0) s) = s := by
        have h3 : sl a0 z i (kOf a0 ((z + i) % a0) s) = sOf a0 ((z + i) % a0) (kOf a0 ((z + i) % a0) s) := slotOf_eq hd hk.1 hk.2
        rw [h3]; exact sOf_kOf hp.1 hp.2 s0 s1 hs
      simp only [Bool.not_true, cond_false]
      generalize hbb : i * (a0 - 1) + kOf a0 ((z + i) % a0) s = b at *
      have b0 : 0 ≤ b := by omega
      have hbn : b < n := by
        rcases Int.lt_or_le b n with h | h
        · exact h
        · have := unwritten (z := z) hd b0 h
          rw [hrd.1, hrd.2, hsl] at this; omega
      have hsb : sb a0 z b = s := by unfold sb; rw [hrd.1, hrd.2]; exact hsl
      have hno : ¬ BB a0 z n s i b := fun h => by
        rcases h.2 with h | h
        · omega
        · rw [hrd.1] at h; omega
      have hiff : ∀ q : Int, 0 ≤ q → (BB a0 z n s (i + 1) q ↔ BB a0 z n s i q ∨ q = b) := fun q q0 => by
        unfold BB
        constructor
        · rintro ⟨h1, h | h⟩
          · exact .inl ⟨h1, .inl h⟩
          · by_cases e : q / (a0 - 1) = i
            · right
              have ha := at_slot (z := z) hd q0
              have h3 := h.1
              unfold sb at h3
              rw [h3, e] at ha
              have h4 := Int.emod_add_mul_ediv q (a0 - 1)
              rw [e, Int.mul_comm] at h4
              omega
            · exact .inl ⟨h1, .inr ⟨h.1, by omega⟩⟩
        · rintro (⟨h1, h | h⟩ | h)
          · exact ⟨h1, .inl h⟩
          · exact ⟨h1, .inr ⟨h.1, by omega⟩⟩
          · subst h; exact ⟨hbn, .inr ⟨hsb, by omega⟩⟩
      have hat := hi.at_ b b0 (by omega)
      rw [dc_f hno] at hat
      have hlen := hi.len
      rw [decide_eq_false (show ¬ n ≤ b by omega), cond_false, lenI_eq, decide_eq_true b0, decide_eq_true (show b < (seen.length : Int) by omega), Bool.and_self, cond_true, hat, optb_some]
      unfold corbellaw16_RebuildTasks_j4 corbellaw16_RebuildTasks_k6 corbellaw16_RebuildTasks_j5 corbellaw16_RebuildTasks_k4
      rw [cond_false, lenI_eq, decide_eq_true b0, decide_eq_true (show b < (seen.length : Int) by omega), Bool.and_self, cond_true, hat, optb_some, w64 (n := blocks + 1) (by omega) (by omega), w64 (n := i + 1) (by omega) (by omega)]
      refine ih j (i + 1) (blocks + 1) par (seen.set b.toNat true) (by omega) (by omega) (by omega) (by omega) ⟨by rw [List.length_set]; exact hlen, fun q q0 q1 => ?_, ?_, ?_⟩
      · by_cases e : q = b
        · subst e
          rw [List.getElem?_set_self (by omega), dc_t ((hiff q q0).2 (.inr rfl))]
        · rw [List.getElem?_set_ne (by omega), hi.at_ q q0 q1]
          congr 1
          exact dc_congr ⟨fun h => (hiff q q0).2 (.inl h), fun h => ((hiff q q0).1 h).resolve_right e⟩
      · rw [cntI_more (P := BB a0 z n s i) (r := b) b0 hno _ (fun q hq => hiff q (by omega)), if_pos (by omega), hbl]
      · rw [hpa]
        refine cntI_congr _ (fun q hq => ?_)
        unfold PP
        constructor
        · rintro (h | h)
          · exact .inl h
          · exact .inr ⟨h.1, by omega⟩
        · rintro (h | h)
          · exact .inl h
          · refine .inr ⟨h.1, ?_⟩
            have : (q : Int) ≠ i := fun e => hs (by rw [← e]; exact h.1.symm)
            omega
theorem l1_val {R : Type} (e0 : Bool → Int → Int → Option R) (e1 : Int → Int → Option R) (k : Nat) (hk : 300 ≤ k) (g : GG a0 a1 a2 a3 a4) {z n : Int} (z0 : 0 ≤ z) (z1 : z < a1 - 3) (n0 : 0 ≤ n) (n1 : n ≤ (a0 - 1) * a2) :
    ∀ (m j : Nat) (s blocks par : Int) (seen : List Bool), 0 ≤ s → s ≤ a0 → (a0 - s).toNat = m → m < j → Inv a0 a2 z n s 0 blocks par seen →
      corbellaw16_RebuildTasks_l1 e0 e1 k z n a0 a0 a1 a2 a3 a4 j blocks par s seen = e1 n (n / (a0 - 1)) := by
  have hd := g.1
  have h2 := g.2.1
  have hcb := cap_bound g
  have hnd : 0 ≤ n / (a0 - 1) := Int.ediv_nonneg n0 (by omega)
  intro m
  induction m with
  | zero =>
    intro j s blocks par seen s0 s1 hm hj hi
    obtain ⟨j, rfl⟩ : ∃ u, j = u + 1 := ⟨j - 1, by omega⟩
    have e : s = a0 := by omega
    subst e
    rw [corbellaw16_RebuildTasks_l1]; unfold corbellaw16_RebuildTasks_l1s
    rw [decide_eq_false (by omega), cond_false, hi.bl, hi.pa]
    congr 1
    · rw [cntI_lt n.toNat _ (by omega) (fun q hq => ?_)]; omega
      unfold BB
      constructor
      · intro h; omega
      · intro h
        exact ⟨by omega, .inl (sl_lt (by omega) _ _ _).2⟩
    · rw [cntI_lt (n / (s - 1)).toNat _ (Nat.le_refl _) (fun q hq => ?_)]; omega
      unfold PP
      exact ⟨fun _ => hq, fun _ => .inl (par_range s z q hd).2⟩
  | succ m ih =>
    intro j s blocks par seen s0 s1 hm hj hi
    obtain ⟨j, rfl⟩ : ∃ u, j = u + 1 := ⟨j - 1, by omega⟩
    have hsd : s < a0 := by omega
    obtain ⟨out, h3, h4, h5⟩ := tasks_in k hk g (z := z) (n := n) (s := s) z0 z1 n0 n1 s0 hsd
    have hlb := lenV_bounds g (zone := z) n0 n1 s0 hsd
    have h6 := g.2.2.2.2.2.1
    rw [corbellaw16_RebuildTasks_l1]; unfold corbellaw16_RebuildTasks_l1s
    rw [decide_eq_true hsd, cond_true, h3, optb_some]
    obtain ⟨b', p', sn', h7, h8⟩ := l2_val (R := R) (fun v b p _ => e0 v b p) (fun b p sn => corbellaw16_RebuildTasks_l1 e0 e1 k z n a0 a0 a1 a2 a3 a4 j b p (wrap64 (s + 1)) sn) k g z0 z1 n0 n1 s0 hsd out h4 h5 _ k 0 blocks par seen (Int.le_refl 0) (by omega) rfl (by omega) hi
    rw [h7, w64 (n := s + 1) (by omega) (by omega)]
    refine ih j (s + 1) b' p' sn' (by omega) (by omega) (by omega) (by omega) ⟨h8.len, fun b b0 b1 => ?_, ?_, ?_⟩
    · rw [h8.at_ b b0 b1]
      congr 1
      refine dc_congr ⟨fun ⟨h1, h⟩ => ⟨h1, .inl (by omega)⟩, fun ⟨h1, h⟩ => ⟨h1, ?_⟩⟩
      have h9 := Int.ediv_nonneg b0 (show 0 ≤ a0 - 1 by omega)
      by_cases e : sb a0 z b = s
      · refine .inr ⟨e, ?_⟩
        have := written (z := z) hd b0 h1
        unfold sb at e
        rw [e] at this; exact this
      · exact .inl (by omega)
    · rw [h8.bl]
      refine cntI_congr _ (fun q hq => ⟨fun ⟨h1, h⟩ => ⟨h1, .inl (by omega)⟩, fun ⟨h1, h⟩ => ⟨h1, ?_⟩⟩)
      have h9 := Int.ediv_nonneg (show (0 : Int) ≤ q by omega) (show 0 ≤ a0 - 1 by omega)
      by_cases e : sb a0 z q = s
      · refine .inr ⟨e, ?_⟩
        have := written (z := z) (b := (q : Int)) hd (by omega) h1
        unfold sb at e
        rw [e] at this; exact this
      · exact .inl (by omega)
    · rw [h8.pa]
      refine cntI_congr _ (fun q hq => ?_)
      unfold PP
      have hq' : (q : Int) < n / (a0 - 1) := by omega
      constructor
      · rintro (h | h)
        · exact .inl (by omega)
        · exact .inl (by omega)
      · rintro (h | h)
        · by_cases e : (z + q) % a0 = s
          · have := lenV_is a0 z n s
            exact .inr ⟨e, by omega⟩
          · exact .inl (by omega)
        · omega
theorem speaks16 (d : Nat) : corbellaw16_speaks (d + 300) = some true := by kernel_rfl
theorem tasks_main (a0 a1 a2 a3 a4 zo n : Int) (hn0 : -9223372036854775808 ≤ n) (hn1 : n ≤ 9223372036854775807) : corbellaw16_RebuildTasks (9700 + 300) a0 a1 a2 a3 a4 zo n = some true := by
  unfold corbellaw16_RebuildTasks
  rw [speaks16, optb_some]
  generalize hk : 9700 + 300 = k
  rw [refgood_val, optb_some]
  by_cases g : GG a0 a1 a2 a3 a4
  · have hd := g.1
    have h2 := g.2.1
    have h3 := g.2.2.1
    have h4 := g.2.2.2.1
    have hcb := cap_bound g
    rw [decide_eq_true g]
    simp only [Bool.not_true, cond_false]
    rw [zones_yes k g, optb_some, decide_eq_false (show ¬ a1 - 3 = 0 by omega), cond_false, optb_some, cap_yes k g]
    simp only [optb_some]
    rw [decide_eq_false (show ¬ a1 - 3 = 0 by omega), cond_false]
    have m0 := Int.lt_tmod_of_pos zo (show 0 < a1 - 3 by omega)
    have m1 := Int.tmod_lt_of_pos zo (show 0 < a1 - 3 by omega)
    rw [w64 (n := Int.tmod zo (a1 - 3) + (a1 - 3)) (by omega) (by omega), tmod_pos (a := Int.tmod zo (a1 - 3) + (a1 - 3)) (by omega)]
    have z0 := Int.emod_nonneg (Int.tmod zo (a1 - 3) + (a1 - 3)) (show a1 - 3 ≠ 0 by omega)
    have z1 := Int.emod_lt_of_pos (Int.tmod zo (a1 - 3) + (a1 - 3)) (show 0 < a1 - 3 by omega)
    generalize (Int.tmod zo (a1 - 3) + (a1 - 3)) % (a1 - 3) = z at *
    unfold corbellaw16_RebuildTasks_j0 corbellaw16_RebuildTasks_k0
    by_cases hin : 0 ≤ n ∧ n ≤ (a0 - 1) * a2
    · rw [decide_eq_false (show ¬ n < 0 by omega), cond_false, decide_eq_false (show ¬ (a0 - 1) * a2 < n by omega), cond_false]
      unfold corbellaw16_RebuildTasks_k1
      rw [decide_eq_true (show 0 ≤ (a0 - 1) * a2 by omega), decide_eq_true (Int.le_refl _), decide_eq_true (show (a0 - 1) * a2 ≤ 1099511627776 by omega)]
      simp only [Bool.and_self, cond_true]
      have hnd : 0 ≤ n / (a0 - 1) := Int.ediv_nonneg hin.1 (by omega)
      rw [l1_val (R := Bool) _ _ k (by omega) g z0 z1 hin.1 hin.2 _ k 0 0 0 _ (Int.le_refl 0) (by omega) rfl (by omega) ⟨?_, ?_, ?_, ?_⟩]
      · unfold corbellaw16_RebuildTasks_j6
        rw [decide_eq_true rfl, cond_true, w64 (n := a0 - 1) (by omega) (by omega), decide_eq_false (show ¬ a0 - 1 = 0 by omega), cond_false, tdiv_pos hin.1]
        have hnn : n / (a0 - 1) ≤ n := Int.ediv_le_self _ hin.1
        rw [w64 (n := n / (a0 - 1)) (by omega) (by omega), decide_eq_true rfl, cond_true, tasks_out k (by omega) (.inl (by decide)) (.inr (by decide)), optb_some, tasks_out k (by omega) (.inr (.inl (Int.le_refl a0))) (.inl (by omega)), optb_some]
        show some (decide (wrap64 (0 + 0) = 0)) = some true
        rw [w64 (n := 0 + 0) (by omega) (by omega)]; rfl
      · rw [List.length_replicate]; omega
      · intro b b0 b1
        rw [List.getElem?_replicate, if_pos (by omega), dc_f (fun h => by
          have h5 := (sl_lt (show 0 < a0 by omega) z (b / (a0 - 1)) (b % (a0 - 1))).1
          have h6 := Int.ediv_nonneg b0 (show 0 ≤ a0 - 1 by omega)
          rcases h.2 with h | h
          · unfold sb at h; omega
          · omega)]; rfl
      · rw [cntI_lt 0 _ (by omega) (fun q hq => ⟨fun h => by
          have h5 := (sl_lt (show 0 < a0 by omega) z ((q : Int) / (a0 - 1)) ((q : Int) % (a0 - 1))).1
          have h6 := Int.ediv_nonneg (show (0 : Int) ≤ q by omega) (show 0 ≤ a0 - 1 by omega)
          rcases h.2 with h | h
          · unfold sb at h; omega
          · omega, fun h => absurd h (by omega)⟩)]; rfl
      · rw [cntI_lt 0 _ (by omega) (fun q hq => ⟨fun h => by
          have h5 := (par_range a0 z q hd).1
          rcases h with h | h
          · omega
          · omega, fun h => absurd h (by omega)⟩)]; rfl
    · rw [tasks_out k (by omega) (.inr (.inr (fun h => hin ⟨h.2.2.2.1, h.2.2.2.2⟩))) (.inl (Int.le_refl 0)), optb_some]
      by_cases h5 : n < 0
      · rw [decide_eq_true h5]; rfl
      · rw [decide_eq_false h5, cond_false, decide_eq_true (show (a0 - 1) * a2 < n by omega)]; rfl
  · rw [decide_eq_false g]
    simp only [Bool.not_false, cond_true]
    rw [tasks_out k (by omega) (.inr (.inr (fun h => g h.1))) (.inl (Int.le_refl 0)), optb_some]
    rfl
end
theorem RebuildTasks : RebuildTasksPure := fun x0 x1 x2 _ _ h => ⟨9700 + 300, tasks_main _ _ _ _ _ _ _ (wf_i64 h).1 (wf_i64 h).2⟩
end Go.Proofs.Ythilffdaofaalaa.Pure
