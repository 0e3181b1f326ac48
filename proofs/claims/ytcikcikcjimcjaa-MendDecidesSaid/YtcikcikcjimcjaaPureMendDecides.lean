/- MendDecides: the pure statement, over numbers and lists alone; no conditions. -/
import Derived.Test.YtcikcikcjimcjaaStatMendDecides
set_option linter.unusedVariables false
set_option linter.unusedSimpArgs false
namespace Go.Proofs.Ytcikcikcjimcjaa.Pure
open Go Go.RowKit Go.Proofs.Ytcikcikcjimcjaa.Ev
/-! ### whole numbers -/
theorem wf_i64 {n : Int} (h : Ty.wf (.int .i64) n) : -9223372036854775808 ≤ n ∧ n ≤ 9223372036854775807 := by
  have h : (Lit.int .i64 n).wf = true := h
  simpa [Lit.wf, IntKind.min, IntKind.max, IntKind.signed, IntKind.bits] using h
theorem w64 {n : Int} (h0 : -9223372036854775808 ≤ n) (h1 : n ≤ 9223372036854775807) : wrap64 n = n := by unfold wrap64; omega
theorem tdiv_pos {a b : Int} (ha : 0 ≤ a) : Int.tdiv a b = a / b := Int.tdiv_eq_ediv_of_nonneg ha
theorem tmod_pos {a b : Int} (ha : 0 ≤ a) : Int.tmod a b = a % b := Int.tmod_eq_emod_of_nonneg ha
theorem bytesOf_append (a b : List Int) : bytesOf a ++ bytesOf b = bytesOf (a ++ b) := by
  apply ByteArray.ext
  simp [bytesOf]
theorem cond_t {α : Type} {c : Bool} {a b : α} (h : c = true) : (bif c then a else b) = a := by rw [h]; rfl
theorem cond_f {α : Type} {c : Bool} {a b : α} (h : c = false) : (bif c then a else b) = b := by rw [h]; rfl
/-! ### the shape of an array of drives -/
def GG (a0 a1 a2 a3 a4 : Int) : Prop := 3 ≤ a0 ∧ a0 ≤ 16 ∧ 5 ≤ a1 ∧ a1 ≤ 64 ∧ 4 ≤ a2 ∧ a2 ≤ 256 ∧ 1 ≤ a3 ∧ a3 ≤ a4 ∧ a4 ≤ a1
instance (a0 a1 a2 a3 a4 : Int) : Decidable (GG a0 a1 a2 a3 a4) := by unfold GG; infer_instance
theorem within_val (k : Nat) (n l h : Int) : geom_within k n l h = some (decide (l ≤ n ∧ n ≤ h)) := by
  unfold geom_within
  by_cases a : l ≤ n <;> simp [a]
theorem good_val (k : Nat) (a0 a1 a2 a3 a4 : Int) : geom_Good k a0 a1 a2 a3 a4 = some (decide (GG a0 a1 a2 a3 a4)) := by
  unfold geom_Good
  simp only [within_val, optb]
  by_cases h1 : 3 ≤ a0 ∧ a0 ≤ 16 <;> by_cases h2 : 5 ≤ a1 ∧ a1 ≤ 64 <;> by_cases h3 : 4 ≤ a2 ∧ a2 ≤ 256 <;> by_cases h4 : 1 ≤ a3 ∧ a3 ≤ a4 <;> simp only [h1, h2, h3, h4, decide_true, decide_false, cond_true, cond_false, Option.some.injEq, decide_eq_decide, and_self] <;> first | (unfold GG; omega) | (symm; rw [decide_eq_false_iff_not]; unfold GG; omega)
theorem refgood_val (k : Nat) (a0 a1 a2 a3 a4 : Int) : corbelref04_Good k a0 a1 a2 a3 a4 = some (decide (GG a0 a1 a2 a3 a4)) := by
  unfold corbelref04_Good corbelref04_Good_j0 corbelref04_Good_k0 corbelref04_Good_k1
  by_cases h1 : a0 < 3 <;> by_cases h2 : 16 < a0 <;> by_cases h3 : a1 < 5 <;> by_cases h4 : 64 < a1 <;> by_cases h5 : a2 < 4 <;> by_cases h6 : 256 < a2 <;> by_cases h7 : 0 < a3 <;> by_cases h8 : a3 ≤ a4 <;>
    simp only [h1, h2, h3, h4, h5, h6, h7, h8, decide_true, decide_false, cond_true, cond_false, Option.some.injEq, decide_eq_decide] <;> first | (unfold GG; omega) | (symm; rw [decide_eq_false_iff_not]; unfold GG; omega)
section
variable {a0 a1 a2 a3 a4 : Int}
theorem cap_bound (h : GG a0 a1 a2 a3 a4) : 8 ≤ (a0 - 1) * a2 ∧ (a0 - 1) * a2 ≤ 3840 := by
  obtain ⟨h1, h2, _, _, h5, h6, _⟩ := h
  have e1 : 2 * 4 ≤ (a0 - 1) * a2 := Int.mul_le_mul (by omega) h5 (by omega) (by omega)
  have e2 : (a0 - 1) * a2 ≤ 15 * 256 := Int.mul_le_mul (by omega) h6 (by omega) (by omega)
  omega
theorem zones_yes (k : Nat) (h : GG a0 a1 a2 a3 a4) : geom_Zones k a0 a1 a2 a3 a4 = some (a1 - 3) := by
  unfold geom_Zones
  rw [good_val, decide_eq_true h]
  obtain ⟨_, _, h1, h2, _⟩ := h
  show some _ = _
  rw [w64 (n := a1 - 2) (by omega) (by omega), w64 (by omega) (by omega)]
  congr 1; omega
theorem zones_no (k : Nat) (h : ¬ GG a0 a1 a2 a3 a4) : geom_Zones k a0 a1 a2 a3 a4 = some 0 := by
  unfold geom_Zones
  rw [good_val, decide_eq_false h]; rfl
theorem cap_yes (k : Nat) (h : GG a0 a1 a2 a3 a4) : geom_Capacity k a0 a1 a2 a3 a4 = some ((a0 - 1) * a2) := by
  unfold geom_Capacity
  rw [good_val, decide_eq_true h]
  have hb := cap_bound h
  obtain ⟨h1, h2, _⟩ := h
  show some _ = _
  rw [w64 (n := a0 - 1) (by omega) (by omega), w64 (by omega) (by omega)]
theorem cap_no (k : Nat) (h : ¬ GG a0 a1 a2 a3 a4) : geom_Capacity k a0 a1 a2 a3 a4 = some 0 := by
  unfold geom_Capacity
  rw [good_val, decide_eq_false h]; rfl
theorem there_yes (k : Nat) (h : GG a0 a1 a2 a3 a4) (z r : Int) : geom_there k a0 a1 a2 a3 a4 z r = some (decide (0 ≤ z ∧ z < a1 - 3 ∧ 0 ≤ r ∧ r < a2)) := by
  unfold geom_there
  rw [zones_yes k h]
  obtain ⟨h1, h2, h3, h4, h5, h6, _⟩ := h
  simp only [optb, within_val]
  rw [w64 (n := a1 - 3 - 1) (by omega) (by omega), w64 (n := a2 - 1) (by omega) (by omega)]
  by_cases h7 : 0 ≤ z ∧ z ≤ a1 - 3 - 1
  · rw [decide_eq_true h7]
    simp only [cond_true, Option.some.injEq, decide_eq_decide]
    omega
  · rw [decide_eq_false h7, decide_eq_false (show ¬ (0 ≤ z ∧ z < a1 - 3 ∧ 0 ≤ r ∧ r < a2) by omega)]; rfl
theorem there_no (k : Nat) (h : ¬ GG a0 a1 a2 a3 a4) (z r : Int) : geom_there k a0 a1 a2 a3 a4 z r = some false := by
  unfold geom_there
  rw [zones_no k h]
  simp only [optb, within_val]
  have : wrap64 (0 - 1) = -1 := by kernel_rfl
  rw [this, decide_eq_false (by omega)]; rfl
end
/-! ### loops over whole numbers -/
noncomputable def dc (P : Prop) : Bool := @decide P (Classical.propDecidable P)
theorem dc_t {P : Prop} (h : P) : dc P = true := @decide_eq_true P (Classical.propDecidable P) h
theorem dc_f {P : Prop} (h : ¬ P) : dc P = false := @decide_eq_false P (Classical.propDecidable P) h
theorem dc_iff {P : Prop} : dc P = true ↔ P := ⟨fun h => @of_decide_eq_true P (Classical.propDecidable P) h, dc_t⟩
theorem dc_congr {P Q : Prop} (h : P ↔ Q) : dc P = dc Q := by rw [propext h]
theorem dc_dec {P : Prop} [Decidable P] : decide P = dc P := by
  by_cases h : P
  · rw [decide_eq_true h, dc_t h]
  · rw [decide_eq_false h, dc_f h]
theorem dc_and (P Q : Prop) : (dc P && dc Q) = dc (P ∧ Q) := by
  by_cases h : P
  · by_cases h2 : Q
    · rw [dc_t h, dc_t h2, dc_t ⟨h, h2⟩]; rfl
    · rw [dc_f h2, dc_f (fun x : P ∧ Q => h2 x.2), Bool.and_false]
  · rw [dc_f h, dc_f (fun x : P ∧ Q => h x.1)]; rfl
/-- up to the first number without `P` -/
theorem loopUp {R : Type} (f : Nat → Int → Option R) (lo to : Int) (P : Int → Prop) (yes : Option R) (no : Int → Option R)
    (hs : ∀ j i, lo ≤ i → i < to → P i → f (j + 1) i = f j (i + 1)) (hn : ∀ j i, lo ≤ i → i < to → ¬ P i → f (j + 1) i = no i) (he : ∀ j i, lo ≤ i → to ≤ i → f (j + 1) i = yes) :
    ∀ n j i, lo ≤ i → (to - i).toNat = n → n < j → ((∀ q, i ≤ q → q < to → P q) ∧ f j i = yes) ∨ (∃ q, i ≤ q ∧ q < to ∧ ¬ P q ∧ (∀ u, i ≤ u → u < q → P u) ∧ f j i = no q) := by
  intro n
  induction n with
  | zero =>
    intro j i hl h hj
    obtain ⟨j, rfl⟩ : ∃ u, j = u + 1 := ⟨j - 1, by omega⟩
    exact .inl ⟨fun q h1 h2 => absurd h2 (by omega), he j i hl (by omega)⟩
  | succ n ih =>
    intro j i hl h hj
    obtain ⟨j, rfl⟩ : ∃ u, j = u + 1 := ⟨j - 1, by omega⟩
    by_cases hp : P i
    · rw [hs j i hl (by omega) hp]
      rcases ih j (i + 1) (by omega) (by omega) (by omega) with ⟨h1, h2⟩ | ⟨q, h1, h2, h3, h4, h5⟩
      · refine .inl ⟨fun q h3 h4 => ?_, h2⟩
        by_cases e : q = i
        · rw [e]; exact hp
        · exact h1 q (by omega) h4
      · refine .inr ⟨q, by omega, h2, h3, fun u h6 h7 => ?_, h5⟩
        by_cases e : u = i
        · rw [e]; exact hp
        · exact h4 u (by omega) h7
    · exact .inr ⟨i, by omega, by omega, hp, fun u h1 h2 => absurd h2 (by omega), hn j i hl (by omega) hp⟩
/-- the same, for a loop that ends where it should -/
theorem loopTo {R : Type} (f : Nat → Int → Option R) (lo to : Int) (P : Int → Prop) (yes : Option R) (no : Int → Option R)
    (hs : ∀ j i, lo ≤ i → i < to → P i → f (j + 1) i = f j (i + 1)) (hn : ∀ j i, lo ≤ i → i < to → ¬ P i → f (j + 1) i = no i) (he : ∀ j, f (j + 1) to = yes) :
    ∀ n j i, lo ≤ i → i ≤ to → (to - i).toNat = n → n < j → ((∀ q, i ≤ q → q < to → P q) ∧ f j i = yes) ∨ (∃ q, i ≤ q ∧ q < to ∧ ¬ P q ∧ (∀ u, i ≤ u → u < q → P u) ∧ f j i = no q) := by
  intro n
  induction n with
  | zero =>
    intro j i hl hle h hj
    obtain ⟨j, rfl⟩ : ∃ u, j = u + 1 := ⟨j - 1, by omega⟩
    exact .inl ⟨fun q h1 h2 => absurd h2 (by omega), by rw [show i = to by omega]; exact he j⟩
  | succ n ih =>
    intro j i hl hle h hj
    obtain ⟨j, rfl⟩ : ∃ u, j = u + 1 := ⟨j - 1, by omega⟩
    by_cases hp : P i
    · rw [hs j i hl (by omega) hp]
      rcases ih j (i + 1) (by omega) (by omega) (by omega) (by omega) with ⟨h1, h2⟩ | ⟨q, h1, h2, h3, h4, h5⟩
      · refine .inl ⟨fun q h3 h4 => ?_, h2⟩
        by_cases e : q = i
        · rw [e]; exact hp
        · exact h1 q (by omega) h4
      · refine .inr ⟨q, by omega, h2, h3, fun u h6 h7 => ?_, h5⟩
        by_cases e : u = i
        · rw [e]; exact hp
        · exact h4 u (by omega) h7
    · exact .inr ⟨i, by omega, by omega, hp, fun u h1 h2 => absurd h2 (by omega), hn j i hl (by omega) hp⟩
theorem loopAll {R : Type} (f : Nat → Int → Option R) (lo to : Int) (P : Int → Prop) (yes no : Option R)
    (hs : ∀ j i, lo ≤ i → i < to → P i → f (j + 1) i = f j (i + 1)) (hn : ∀ j i, lo ≤ i → i < to → ¬ P i → f (j + 1) i = no) (he : ∀ j i, lo ≤ i → to ≤ i → f (j + 1) i = yes)
    (j : Nat) (i : Int) (hl : lo ≤ i) (hj : (to - i).toNat < j) : f j i = bif dc (∀ q, i ≤ q → q < to → P q) then yes else no := by
  rcases loopUp f lo to P yes (fun _ => no) hs hn he _ j i hl rfl hj with ⟨h1, h2⟩ | ⟨q, h1, h2, h3, _, h5⟩
  · rw [dc_t h1, h2]; rfl
  · rw [dc_f (fun h => h3 (h q h1 h2)), h5]; rfl
/-- the last number below `n` with `P` -/
noncomputable def lastI (P : Int → Prop) : Nat → Int
  | 0 => -1
  | n + 1 => bif dc (P n) then n else lastI P n
theorem lastI_lt (P : Int → Prop) (n : Nat) : -1 ≤ lastI P n ∧ lastI P n < n := by
  induction n with
  | zero => exact ⟨Int.le_refl (-1), by show (-1 : Int) < 0; decide⟩
  | succ n ih =>
    unfold lastI
    cases dc (P n) with
    | true => rw [cond_true]; omega
    | false => rw [cond_false]; omega
theorem lastI_yes (P : Int → Prop) (n : Nat) (h : 0 ≤ lastI P n) : P (lastI P n) := by
  induction n with
  | zero => exact absurd (show (0 : Int) ≤ -1 from h) (by decide)
  | succ n ih =>
    unfold lastI at h ⊢
    by_cases hp : P n
    · rw [dc_t hp]; exact hp
    · rw [dc_f hp] at h ⊢; exact ih h
theorem lastI_no (P : Int → Prop) (n : Nat) : 0 ≤ lastI P n ↔ ∃ q : Nat, q < n ∧ P q := by
  induction n with
  | zero => exact ⟨fun h => absurd (show (0 : Int) ≤ -1 from h) (by decide), fun ⟨q, h, _⟩ => absurd h (by omega)⟩
  | succ n ih =>
    unfold lastI
    by_cases hp : P n
    · rw [dc_t hp]; exact ⟨fun _ => ⟨n, by omega, hp⟩, fun _ => by rw [cond_true]; omega⟩
    · rw [dc_f hp, cond_false, ih]
      refine ⟨fun ⟨q, h1, h2⟩ => ⟨q, by omega, h2⟩, fun ⟨q, h1, h2⟩ => ⟨q, ?_, h2⟩⟩
      by_cases e : q = n
      · rw [e] at h2; exact absurd h2 hp
      · omega
theorem lastI_congr {P Q : Int → Prop} (n : Nat) (h : ∀ q : Nat, q < n → (P q ↔ Q q)) : lastI P n = lastI Q n := by
  induction n with
  | zero => rfl
  | succ n ih => unfold lastI; rw [dc_congr (h n (by omega)), ih (fun q hq => h q (by omega))]
theorem loopDown {R : Type} (f : Nat → Int → Option R) (N : Nat) (P : Int → Prop) (yes : Int → Option R) (no : Option R)
    (hy : ∀ j (i : Nat), i < N → P i → f (j + 1) i = yes i) (hn : ∀ j (i : Nat), i < N → ¬ P i → f (j + 1) i = f j (i - 1)) (he : ∀ j, f (j + 1) (-1) = no) :
    ∀ n j, n ≤ N → n < j → f j (n - 1) = bif decide (0 ≤ lastI P n) then yes (lastI P n) else no := by
  intro n
  induction n with
  | zero =>
    intro j _ hj
    obtain ⟨j, rfl⟩ : ∃ u, j = u + 1 := ⟨j - 1, by omega⟩
    exact he j
  | succ n ih =>
    intro j hN hj
    obtain ⟨j, rfl⟩ : ∃ u, j = u + 1 := ⟨j - 1, by omega⟩
    rw [show ((n + 1 : Nat) : Int) - 1 = (n : Int) by omega]
    unfold lastI
    by_cases hp : P n
    · rw [hy j n (by omega) hp, dc_t hp, cond_true, decide_eq_true (by omega)]; rfl
    · rw [hn j n (by omega) hp, dc_f hp, cond_false]; exact ih j (by omega) (by omega)
/-- a state that is carried along -/
def foldI {S : Type} (g : Int → S → S) : Nat → Int → S → S
  | 0, _, s => s
  | n + 1, i, s => foldI g n (i + 1) (g i s)
theorem loopFold {R S : Type} (f : Nat → S → Int → Option R) (lo to : Int) (g : Int → S → S) (e : S → Option R)
    (hs : ∀ j s i, lo ≤ i → i < to → f (j + 1) s i = f j (g i s) (i + 1)) (he : ∀ j s i, lo ≤ i → to ≤ i → f (j + 1) s i = e s) :
    ∀ n j s i, lo ≤ i → (to - i).toNat = n → n < j → f j s i = e (foldI g n i s) := by
  intro n
  induction n with
  | zero =>
    intro j s i hl h hj
    obtain ⟨j, rfl⟩ : ∃ u, j = u + 1 := ⟨j - 1, by omega⟩
    exact he j s i hl (by omega)
  | succ n ih =>
    intro j s i hl h hj
    obtain ⟨j, rfl⟩ : ∃ u, j = u + 1 := ⟨j - 1, by omega⟩
    rw [hs j s i hl (by omega), ih j _ _ (by omega) (by omega) (by omega)]; rfl
theorem foldI_and (P : Int → Prop) : ∀ n i a, foldI (fun i a => a && dc (P i)) n i a = (a && dc (∀ q, i ≤ q → q < i + (n : Nat) → P q)) := by
  intro n
  induction n with
  | zero => intro i a; rw [dc_t (fun q h1 h2 => absurd h2 (by omega)), Bool.and_true]; rfl
  | succ n ih =>
    intro i a
    show foldI _ n (i + 1) (a && dc (P i)) = _
    rw [ih, Bool.and_assoc, dc_and]
    congr 1
    refine dc_congr ⟨fun ⟨h, h'⟩ q h1 h2 => ?_, fun h => ⟨h i (by omega) (by omega), fun q h1 h2 => h q (by omega) (by omega)⟩⟩
    by_cases e : q = i
    · rw [e]; exact h
    · exact h' q (by omega) (by omega)
theorem foldI_snoc {S : Type} (g : Int → S → S) : ∀ n i s, foldI g (n + 1) i s = g (i + (n : Nat)) (foldI g n i s) := by
  intro n
  induction n with
  | zero => intro i s; show g i s = g (i + 0) s; rw [Int.add_zero]
  | succ n ih =>
    intro i s
    show foldI g (n + 1) (i + 1) (g i s) = _
    rw [ih]
    show g (i + 1 + (n : Nat)) _ = g (i + ((n + 1 : Nat) : Int)) (foldI g n (i + 1) (g i s))
    congr 1; omega
theorem foldI_last (P : Int → Prop) (n : Nat) : foldI (fun i a => bif dc (P i) then i else a) n 0 (-1) = lastI P n := by
  induction n with
  | zero => rfl
  | succ n ih => rw [foldI_snoc, ih]; show _ = (bif dc (P n) then (n : Int) else lastI P n); rw [Int.zero_add]
/-! ### reading a list -/
def lat (L : List Int) (q : Int) : Int := L.getD q.toNat 0
theorem lat_some {L : List Int} {q : Int} (h0 : 0 ≤ q) (h1 : q < L.length) : L[q.toNat]? = some (lat L q) := by
  have h : q.toNat < L.length := by omega
  unfold lat
  rw [List.getD_eq_getElem?_getD, List.getElem?_eq_getElem h]; rfl
theorem lat_wf {L : List Int} {b : Bool} (h : Ty.wf (.sl (.int .i64)) (b, L)) (q : Int) (h0 : 0 ≤ q) (h1 : q < L.length) : -9223372036854775808 ≤ lat L q ∧ lat L q ≤ 9223372036854775807 := by
  have hm : lat L q ∈ L := by
    have h : q.toNat < L.length := by omega
    unfold lat
    rw [List.getD_eq_getElem?_getD, List.getElem?_eq_getElem h]; exact List.getElem_mem h
  exact wf_i64 (h.2.2 _ hm)
/-! ### where a block lies -/
def sl (d z r p : Int) : Int := ((z + r) % d + 1 + p) % d
theorem sl_lt {d : Int} (hd : 0 < d) (z r p : Int) : 0 ≤ sl d z r p ∧ sl d z r p < d := ⟨Int.emod_nonneg _ (by omega), Int.emod_lt_of_pos _ hd⟩
section
variable {a0 a1 a2 a3 a4 : Int}
theorem par_yes (k : Nat) (h : GG a0 a1 a2 a3 a4) {z r : Int} (t : 0 ≤ z ∧ z < a1 - 3 ∧ 0 ≤ r ∧ r < a2) : geom_Parity k a0 a1 a2 a3 a4 z r = some ((z + r) % a0) := by
  unfold geom_Parity
  rw [there_yes k h, decide_eq_true t]
  obtain ⟨h1, h2, h3, h4, h5, h6, _⟩ := h
  simp only [optb, Bool.not_true, cond_false]
  rw [decide_eq_false (show ¬ a0 = 0 by omega), cond_false, w64 (by omega) (by omega), tmod_pos (by omega)]
theorem block_row {d b rows : Int} (hd : 3 ≤ d) (hb : 0 ≤ b) (hc : b < (d - 1) * rows) : 0 ≤ b / (d - 1) ∧ b / (d - 1) < rows ∧ 0 ≤ b % (d - 1) ∧ b % (d - 1) < d - 1 := by
  refine ⟨Int.ediv_nonneg hb (by omega), Int.ediv_lt_of_lt_mul (by omega) ?_, Int.emod_nonneg _ (by omega), Int.emod_lt_of_pos _ (by omega)⟩
  rw [Int.mul_comm]; exact hc
theorem slot_par (k : Nat) (h : GG a0 a1 a2 a3 a4) {z r : Int} (t : 0 ≤ z ∧ z < a1 - 3 ∧ 0 ≤ r ∧ r < a2) {p : Int} (p0 : -1 ≤ p) (p1 : p < 1000) : Int.tmod (wrap64 (wrap64 ((z + r) % a0 + 1) + p)) a0 = sl a0 z r p := by
  obtain ⟨h1, h2, h3, h4, h5, h6, _⟩ := h
  have e0 := Int.emod_nonneg (z + r) (show a0 ≠ 0 by omega)
  have e1 := Int.emod_lt_of_pos (z + r) (show 0 < a0 by omega)
  rw [w64 (n := (z + r) % a0 + 1) (by omega) (by omega), w64 (by omega) (by omega), tmod_pos (by omega)]; rfl
end
/-! ### spots and lengths -/
theorem div_step {n c : Int} (hc : 0 < c) (h0 : 0 ≤ n) : (n % c + 1 < c ∧ (n + 1) / c = n / c ∧ (n + 1) % c = n % c + 1) ∨ (n % c + 1 = c ∧ (n + 1) / c = n / c + 1 ∧ (n + 1) % c = 0) := by
  have h1 := Int.emod_add_mul_ediv n c
  have h2 := Int.emod_nonneg n (show c ≠ 0 by omega)
  have h3 := Int.emod_lt_of_pos n hc
  rcases Int.lt_or_le (n % c + 1) c with hlt | hge
  · refine .inl ⟨hlt, ?_, ?_⟩
    · have e : n + 1 = (n % c + 1) + (n / c) * c := by rw [Int.mul_comm (n / c)]; omega
      rw [e, Int.add_mul_ediv_right _ _ (by omega), Int.ediv_eq_zero_of_lt (by omega) hlt]; omega
    · have e : n + 1 = (n % c + 1) + c * (n / c) := by omega
      conv => lhs; rw [e]
      rw [Int.add_mul_emod_self_left]; exact Int.emod_eq_of_lt (by omega) hlt
  · refine .inr ⟨by omega, ?_, ?_⟩
    · have e : n + 1 = 0 + (n / c + 1) * c := by rw [Int.add_mul, Int.one_mul, Int.mul_comm (n / c)]; omega
      rw [e, Int.add_mul_ediv_right _ _ (by omega)]; simp
    · have e : n + 1 = 0 + c * (n / c + 1) := by rw [Int.mul_add, Int.mul_one]; omega
      rw [e, Int.add_mul_emod_self_left]; simp

abbrev slotOf (d zone row k : Int) : Int := sl d zone row k
/-! ### what lies at a spot -/
def kOf (d p drive : Int) : Int := if p < drive then drive - p - 1 else drive - p - 1 + d
def sOf (d p k : Int) : Int := if p + 1 + k < d then p + 1 + k else p + 1 + k - d
theorem kOf_mod {d p drive : Int} (h0 : 0 ≤ p) (h1 : p < d) (h2 : 0 ≤ drive) (h3 : drive < d) (h4 : drive ≠ p) : (drive - p - 1 + d) % d = kOf d p drive := by
  unfold kOf
  split
  · rw [Int.add_emod_right]; exact Int.emod_eq_of_lt (by omega) (by omega)
  · exact Int.emod_eq_of_lt (by omega) (by omega)
theorem kOf_range {d p drive : Int} (h0 : 0 ≤ p) (h1 : p < d) (h2 : 0 ≤ drive) (h3 : drive < d) (h4 : drive ≠ p) : 0 ≤ kOf d p drive ∧ kOf d p drive ≤ d - 2 := by
  unfold kOf; split <;> omega
theorem sOf_mod {d p k : Int} (h0 : 0 ≤ p) (h1 : p < d) (h2 : 0 ≤ k) (h3 : k ≤ d - 2) : (p + 1 + k) % d = sOf d p k := by
  unfold sOf
  split
  · exact Int.emod_eq_of_lt (by omega) (by omega)
  · rw [show p + 1 + k = (p + 1 + k - d) + d by omega, Int.add_emod_right, show p + 1 + k - d + d - d = p + 1 + k - d by omega]; exact Int.emod_eq_of_lt (by omega) (by omega)
theorem sOf_range {d p k : Int} (h0 : 0 ≤ p) (h1 : p < d) (h2 : 0 ≤ k) (h3 : k ≤ d - 2) : 0 ≤ sOf d p k ∧ sOf d p k < d ∧ sOf d p k ≠ p := by
  unfold sOf; split <;> omega
theorem sOf_kOf {d p drive : Int} (h0 : 0 ≤ p) (h1 : p < d) (h2 : 0 ≤ drive) (h3 : drive < d) (h4 : drive ≠ p) : sOf d p (kOf d p drive) = drive := by
  unfold sOf kOf; split <;> split <;> omega
theorem kOf_sOf {d p k : Int} (h0 : 0 ≤ p) (h1 : p < d) (h2 : 0 ≤ k) (h3 : k ≤ d - 2) : kOf d p (sOf d p k) = k := by
  unfold sOf kOf; split <;> split <;> omega
theorem par_range (d zone row : Int) (hd : 3 ≤ d) : 0 ≤ (zone + row) % d ∧ (zone + row) % d < d := ⟨Int.emod_nonneg _ (by omega), Int.emod_lt_of_pos _ (by omega)⟩

theorem slotOf_eq {d zone row k : Int} (hd : 3 ≤ d) (h2 : 0 ≤ k) (h3 : k ≤ d - 2) : slotOf d zone row k = sOf d ((zone + row) % d) k :=
  sOf_mod (par_range d zone row hd).1 (par_range d zone row hd).2 h2 h3

theorem mul_row {d b row : Int} (hd : 3 ≤ d) (h0 : 0 ≤ row) (h1 : row ≤ b - 1) : 0 ≤ row * (d - 1) ∧ row * (d - 1) ≤ (d - 1) * b - (d - 1) := by
  refine ⟨Int.mul_nonneg h0 (by omega), ?_⟩
  have := Int.mul_le_mul_of_nonneg_right h1 (show 0 ≤ d - 1 by omega)
  rw [Int.sub_mul, Int.one_mul, Int.mul_comm b] at this
  exact this
theorem row_div {d row k : Int} (hd : 3 ≤ d) (h2 : 0 ≤ k) (h3 : k ≤ d - 2) : (row * (d - 1) + k) / (d - 1) = row ∧ (row * (d - 1) + k) % (d - 1) = k := by
  constructor
  · rw [Int.add_comm, Int.add_mul_ediv_right _ _ (by omega), Int.ediv_eq_zero_of_lt h2 (by omega)]; omega
  · rw [Int.add_comm, Int.add_mul_emod_self_right]; exact Int.emod_eq_of_lt h2 (by omega)

/-! ### how many blocks a slot has of a zone -/
def lenV (d zone n s : Int) : Int := n / (d - 1) + (if s ≠ (zone + n / (d - 1)) % d ∧ kOf d ((zone + n / (d - 1)) % d) s < n % (d - 1) then 1 else 0)
theorem lenV_step {d zone n s : Int} (hd : 3 ≤ d) (hn : 0 ≤ n) (h0 : 0 ≤ s) (h1 : s < d) :
    lenV d zone (n + 1) s = lenV d zone n s + (if s = slotOf d zone (n / (d - 1)) (n % (d - 1)) then 1 else 0) + (if n % (d - 1) = d - 2 ∧ s = (zone + n / (d - 1)) % d then 1 else 0) := by
  have hp := par_range d zone (n / (d - 1)) hd
  have hm0 := Int.emod_nonneg n (show d - 1 ≠ 0 by omega)
  have hm1 := Int.emod_lt_of_pos n (show 0 < d - 1 by omega)
  have hs : slotOf d zone (n / (d - 1)) (n % (d - 1)) = sOf d ((zone + n / (d - 1)) % d) (n % (d - 1)) := slotOf_eq hd hm0 (by omega)
  have hsr := sOf_range hp.1 hp.2 hm0 (show n % (d - 1) ≤ d - 2 by omega)
  rw [hs]
  unfold lenV
  generalize hpp : (zone + n / (d - 1)) % d = p at hp hsr ⊢
  generalize hr : n % (d - 1) = r at hm0 hm1 hsr ⊢
  have hk : s ≠ p → (s = sOf d p r ↔ kOf d p s = r) := by
    intro hne
    constructor
    · rintro rfl; exact kOf_sOf hp.1 hp.2 hm0 (by omega)
    · rintro h; rw [← h]; exact (sOf_kOf hp.1 hp.2 h0 h1 hne).symm
  rcases div_step (n := n) (c := d - 1) (by omega) hn with ⟨e1, e2, e3⟩ | ⟨e1, e2, e3⟩
  · rw [e2, e3, hpp, hr]
    rw [hr] at e1
    by_cases hsp : s = p
    · subst hsp
      rw [if_neg (by omega), if_neg (by omega), if_neg (by omega), if_neg (by omega)]; omega
    · have hk2 := hk hsp
      by_cases hkr : kOf d p s < r
      · rw [if_pos ⟨hsp, by omega⟩, if_pos ⟨hsp, hkr⟩, if_neg (by omega), if_neg (by omega)]; omega
      · by_cases hke : kOf d p s = r
        · rw [if_pos ⟨hsp, by omega⟩, if_neg (by omega), if_pos (hk2.2 hke), if_neg (by omega)]; omega
        · rw [if_neg (by omega), if_neg (by omega), if_neg (fun h => hke (hk2.1 h)), if_neg (by omega)]; simp
  · rw [e2, e3]
    rw [hr] at e1
    have hnn : ¬ (s ≠ (zone + (n / (d - 1) + 1)) % d ∧ kOf d ((zone + (n / (d - 1) + 1)) % d) s < 0) := by
      rintro ⟨h2, h3⟩
      have hp' := par_range d zone (n / (d - 1) + 1) hd
      have := kOf_range hp'.1 hp'.2 h0 h1 h2
      omega
    rw [if_neg hnn]
    by_cases hsp : s = p
    · subst hsp
      rw [if_neg (by omega), if_neg (by omega), if_pos ⟨by omega, rfl⟩]; omega
    · have hk2 := hk hsp
      have hkr := kOf_range hp.1 hp.2 h0 h1 hsp
      by_cases hke : kOf d p s = r
      · rw [if_neg (by omega), if_pos (hk2.2 hke), if_neg (by omega)]; omega
      · rw [if_pos ⟨hsp, by omega⟩, if_neg (fun h => hke (hk2.1 h)), if_neg (by omega)]; omega
theorem lenV_zero {d zone s : Int} (hd : 3 ≤ d) (h0 : 0 ≤ s) (h1 : s < d) : lenV d zone 0 s = 0 := by
  unfold lenV
  have hp := par_range d zone (0 / (d - 1)) hd
  rw [if_neg]
  · simp
  · rintro ⟨h2, h3⟩
    have := kOf_range hp.1 hp.2 h0 h1 h2
    simp at h3
    simp at this
    omega
/-- What Lengths tells: one number a slot. -/
def lensL (d zone n : Int) : List Int := (List.range d.toNat).map fun s : Nat => lenV d zone n (s : Int)
theorem lensL_length {d : Int} (hd : 0 ≤ d) (zone n : Int) : ((lensL d zone n).length : Int) = d := by simp [lensL]; omega
theorem lensL_at {d zone n s : Int} (h0 : 0 ≤ s) (h1 : s < d) : lat (lensL d zone n) s = lenV d zone n s := by
  unfold lat lensL
  rw [List.getD_eq_getElem?_getD, List.getElem?_map, List.getElem?_range (by omega)]
  simp [show ((s.toNat : Nat) : Int) = s by omega]
theorem lat_ext {L M : List Int} (hl : L.length = M.length) (h : ∀ q : Int, 0 ≤ q → q < L.length → lat L q = lat M q) : L = M := by
  apply List.ext_getElem hl
  intro i h1 h2
  have := h i (by omega) (by omega)
  unfold lat at this
  rw [Int.toNat_natCast, List.getD_eq_getElem?_getD, List.getD_eq_getElem?_getD, List.getElem?_eq_getElem h1, List.getElem?_eq_getElem h2] at this
  exact this
theorem lat_set {L : List Int} {i : Int} (h0 : 0 ≤ i) (hi : i < L.length) (v : Int) {q : Int} (hq : 0 ≤ q) : lat (L.set i.toNat v) q = if q = i then v else lat L q := by
  unfold lat
  rw [List.getD_eq_getElem?_getD, List.getD_eq_getElem?_getD, List.getElem?_set]
  by_cases e : q = i
  · rw [if_pos e, if_pos (by omega), if_pos (by omega)]; rfl
  · rw [if_neg e, if_neg (by omega)]
theorem lat_rep (n : Nat) (q : Int) : lat (List.replicate n 0) q = 0 := by
  unfold lat
  rw [List.getD_eq_getElem?_getD, List.getElem?_replicate]
  split <;> rfl
theorem lenV_bounds {a0 a1 a2 a3 a4 : Int} (h : GG a0 a1 a2 a3 a4) {zone n s : Int} (hn0 : 0 ≤ n) (hn1 : n ≤ (a0 - 1) * a2) (h0 : 0 ≤ s) (h1 : s < a0) :
    0 ≤ n / (a0 - 1) ∧ n / (a0 - 1) ≤ lenV a0 zone n s ∧ lenV a0 zone n s ≤ n / (a0 - 1) + 1 ∧ lenV a0 zone n s ≤ a2 ∧ n / (a0 - 1) ≤ a2 := by
  have hg : 3 ≤ a0 ∧ a2 ≤ 256 := ⟨h.1, h.2.2.2.2.2.1⟩
  have hp := par_range a0 zone (n / (a0 - 1)) hg.1
  have hq0 := Int.ediv_nonneg hn0 (show 0 ≤ a0 - 1 by omega)
  have hb : n / (a0 - 1) ≤ a2 := by
    have := Int.ediv_le_ediv (show 0 < a0 - 1 by omega) hn1
    rwa [Int.mul_ediv_cancel_left _ (by omega)] at this
  have hm0 := Int.emod_nonneg n (show a0 - 1 ≠ 0 by omega)
  have hdm := Int.emod_add_mul_ediv n (a0 - 1)
  unfold lenV
  by_cases hc : s ≠ (zone + n / (a0 - 1)) % a0 ∧ kOf a0 ((zone + n / (a0 - 1)) % a0) s < n % (a0 - 1)
  · rw [if_pos hc]
    have hk := kOf_range hp.1 hp.2 h0 h1 hc.1
    have : n / (a0 - 1) ≠ a2 := by
      intro e
      rw [e] at hdm
      omega
    omega
  · rw [if_neg hc]; omega
/-! ### what a spot holds, and what Lengths says -/
section
variable {a0 a1 a2 a3 a4 : Int}
theorem par_out (k : Nat) {z r : Int} (t : ¬ (GG a0 a1 a2 a3 a4 ∧ 0 ≤ z ∧ z < a1 - 3 ∧ 0 ≤ r ∧ r < a2)) : geom_Parity k a0 a1 a2 a3 a4 z r = some (-1) := by
  unfold geom_Parity
  by_cases g : GG a0 a1 a2 a3 a4
  · rw [there_yes k g, decide_eq_false (fun x => t ⟨g, x⟩)]; rfl
  · rw [there_no k g]; rfl
theorem back_in (k : Nat) (g : GG a0 a1 a2 a3 a4) {z r s : Int} (t : 0 ≤ z ∧ z < a1 - 3 ∧ 0 ≤ r ∧ r < a2) (s0 : 0 ≤ s) (s1 : s < a0) (h : s ≠ (z + r) % a0) :
    geom_Back k a0 a1 a2 a3 a4 z r s = some (r * (a0 - 1) + kOf a0 ((z + r) % a0) s, true) := by
  have g' := g
  obtain ⟨h1, h2, h3, h4, h5, h6, _⟩ := g'
  have hp := par_range a0 z r h1
  have hk := kOf_range hp.1 hp.2 s0 s1 h
  have hm := mul_row (d := a0) (b := a2) (row := r) h1 t.2.2.1 (by omega)
  have hc := cap_bound g
  unfold geom_Back
  rw [par_yes k g t]
  simp only [optb]
  rw [decide_eq_false (show ¬ (z + r) % a0 < 0 by omega), cond_false, decide_eq_false (show ¬ (z + r) % a0 = s from fun x => h x.symm), cond_false, within_val]
  simp only [optb]
  rw [w64 (n := a0 - 1) (by omega) (by omega), decide_eq_true (show 0 ≤ s ∧ s ≤ a0 - 1 by omega)]
  simp only [Bool.not_true, geom_Back_j0, geom_Back_k1, geom_Back_j1, cond_false]
  rw [decide_eq_false (show ¬ a0 = 0 by omega), cond_false, w64 (n := a0 - 1) (by omega) (by omega), w64 (n := s - (z + r) % a0) (by omega) (by omega), w64 (n := s - (z + r) % a0 - 1) (by omega) (by omega), w64 (n := s - (z + r) % a0 - 1 + a0) (by omega) (by omega), tmod_pos (by omega), kOf_mod hp.1 hp.2 s0 s1 h, w64 (n := r * (a0 - 1)) (by omega) (by omega), w64 (by omega) (by omega)]
theorem back_par (k : Nat) (g : GG a0 a1 a2 a3 a4) {z r : Int} (t : 0 ≤ z ∧ z < a1 - 3 ∧ 0 ≤ r ∧ r < a2) : geom_Back k a0 a1 a2 a3 a4 z r ((z + r) % a0) = some (0, false) := by
  have hp := par_range a0 z r g.1
  unfold geom_Back
  rw [par_yes k g t]
  simp only [optb, decide_true, cond_true]
  rw [decide_eq_false (show ¬ (z + r) % a0 < 0 by omega)]; rfl
theorem back_out (k : Nat) {z r : Int} (t : ¬ (GG a0 a1 a2 a3 a4 ∧ 0 ≤ z ∧ z < a1 - 3 ∧ 0 ≤ r ∧ r < a2)) (s : Int) : geom_Back k a0 a1 a2 a3 a4 z r s = some (0, false) := by
  unfold geom_Back
  rw [par_out k t]; rfl
theorem back_lt (k : Nat) (g : GG a0 a1 a2 a3 a4) {z n s : Int} (z0 : 0 ≤ z) (z1 : z < a1 - 3) (n0 : 0 ≤ n) (n1 : n ≤ (a0 - 1) * a2) (s0 : 0 ≤ s) (s1 : s < a0) :
    ∃ x, geom_Back k a0 a1 a2 a3 a4 z (n / (a0 - 1)) s = some x ∧ (lenV a0 z n s = if x.2 = true ∧ x.1 < n then n / (a0 - 1) + 1 else n / (a0 - 1)) := by
  have h1 := g.1
  have hp := par_range a0 z (n / (a0 - 1)) (by omega)
  have hm0 := Int.emod_nonneg n (show a0 - 1 ≠ 0 by omega)
  have hdm := Int.emod_add_mul_ediv n (a0 - 1)
  have hb := (lenV_bounds g (zone := z) n0 n1 s0 s1)
  rw [Int.mul_comm] at hdm
  unfold lenV
  by_cases hr : n / (a0 - 1) < a2
  · have t : 0 ≤ z ∧ z < a1 - 3 ∧ 0 ≤ n / (a0 - 1) ∧ n / (a0 - 1) < a2 := ⟨z0, z1, hb.1, hr⟩
    by_cases hs : s = (z + n / (a0 - 1)) % a0
    · refine ⟨_, by rw [hs]; exact back_par k g t, ?_⟩
      rw [if_neg (by omega), if_neg (by simp)]; omega
    · refine ⟨_, back_in k g t s0 s1 hs, ?_⟩
      by_cases hk : kOf a0 ((z + n / (a0 - 1)) % a0) s < n % (a0 - 1)
      · rw [if_pos ⟨hs, hk⟩, if_pos ⟨rfl, by simp only; omega⟩]
      · rw [if_neg (by omega), if_neg (by simp only; omega)]; omega
  · refine ⟨_, back_out k (fun x => hr x.2.2.2.2) s, ?_⟩
    have hm : n % (a0 - 1) = 0 := by
      have e : n / (a0 - 1) = a2 := by omega
      rw [e, Int.mul_comm] at hdm
      omega
    have hno : ¬ (s ≠ (z + n / (a0 - 1)) % a0 ∧ kOf a0 ((z + n / (a0 - 1)) % a0) s < n % (a0 - 1)) := by
      rintro ⟨h2, h3⟩
      have := kOf_range hp.1 hp.2 s0 s1 h2
      omega
    rw [if_neg hno, if_neg (by simp)]; omega
theorem lengths_loop {R : Type} (e0 : List Int → Option R) (k : Nat) (g : GG a0 a1 a2 a3 a4) {z n : Int} (z0 : 0 ≤ z) (z1 : z < a1 - 3) (n0 : 0 ≤ n) (n1 : n ≤ (a0 - 1) * a2) : ∀ (m j : Nat) (i : Int) (out : List Int), 0 ≤ i → i ≤ a0 → (a0 - i).toNat = m → m < j → (out.length : Int) = a0 → (∀ q, 0 ≤ q → q < i → lat out q = lenV a0 z n q) →
    plan_Lengths_l1 e0 k z n (n / (a0 - 1)) a0 a0 a1 a2 a3 a4 j i out = e0 (lensL a0 z n) := by
  have hd := g.2.1
  intro m
  induction m with
  | zero =>
    intro j i out i0 i1 hm hj hl hq
    obtain ⟨j, rfl⟩ : ∃ u, j = u + 1 := ⟨j - 1, by omega⟩
    rw [plan_Lengths_l1]; unfold plan_Lengths_l1s
    rw [decide_eq_false (by omega), cond_false]
    congr 1
    have h2 := lensL_length (d := a0) (by omega) z n
    refine lat_ext (by omega) (fun q q0 q1 => ?_)
    rw [lensL_at q0 (by omega)]; exact hq q q0 (by omega)
  | succ m ih =>
    intro j i out i0 i1 hm hj hl hq
    obtain ⟨j, rfl⟩ : ∃ u, j = u + 1 := ⟨j - 1, by omega⟩
    obtain ⟨x, hx, hv⟩ := back_lt k g z0 z1 n0 n1 i0 (show i < a0 by omega)
    have hb := lenV_bounds g (zone := z) n0 n1 i0 (show i < a0 by omega)
    have h6 := g.2.2.2.2.2.1
    rw [plan_Lengths_l1]; unfold plan_Lengths_l1s plan_Lengths_j2 plan_Lengths_k2 plan_Lengths_j3
    rw [decide_eq_true (show i < a0 by omega), cond_true, lenI_eq, decide_eq_true i0, decide_eq_true (show i < (out.length : Int) by omega), lat_some i0 (by omega)]
    simp only [Bool.and_self, cond_true, optb]
    rw [hx]
    simp only [lenI_eq]
    have hls : ((out.set i.toNat (n / (a0 - 1))).length : Int) = a0 := by rw [List.length_set]; exact hl
    have hw : wrap64 (i + 1) = i + 1 := w64 (by omega) (by omega)
    by_cases hc : x.2 = true ∧ x.1 < n
    · rw [if_pos hc] at hv
      rw [hc.1, decide_eq_true hc.2, cond_true, cond_true, decide_eq_true (show i < ((out.set i.toNat (n / (a0 - 1))).length : Int) by omega), lat_some i0 (by omega)]
      simp only [Bool.and_self, cond_true]
      have e1 : lat (out.set i.toNat (n / (a0 - 1))) i = n / (a0 - 1) := by rw [lat_set i0 (by omega) _ i0, if_pos rfl]
      rw [e1, hw, w64 (n := n / (a0 - 1) + 1) (by omega) (by omega)]
      refine ih j (i + 1) _ (by omega) (by omega) (by omega) (by omega) (by rw [List.length_set]; exact hls) (fun q q0 q1 => ?_)
      rw [lat_set i0 (by omega) _ q0]
      by_cases e : q = i
      · rw [if_pos e, e, hv]
      · rw [if_neg e, lat_set i0 (by omega) _ q0, if_neg e]; exact hq q q0 (by omega)
    · rw [if_neg hc] at hv
      have hgo : plan_Lengths_l1 e0 k z n (n / (a0 - 1)) a0 a0 a1 a2 a3 a4 j (i + 1) (out.set i.toNat (n / (a0 - 1))) = e0 (lensL a0 z n) := by
        refine ih j (i + 1) _ (by omega) (by omega) (by omega) (by omega) hls (fun q q0 q1 => ?_)
        rw [lat_set i0 (by omega) _ q0]
        by_cases e : q = i
        · rw [if_pos e, e, hv]
        · rw [if_neg e]; exact hq q q0 (by omega)
      cases h2 : x.2 with
      | true => rw [decide_eq_false (fun y => hc ⟨h2, y⟩), cond_true, cond_false, hw]; exact hgo
      | false => rw [cond_false, cond_false, hw]; exact hgo
def InZN (a0 a1 a2 z n : Int) : Prop := 0 ≤ z ∧ z < a1 - 3 ∧ 0 ≤ n ∧ n ≤ (a0 - 1) * a2
theorem lengths_in (k : Nat) (hk : 100 ≤ k) (g : GG a0 a1 a2 a3 a4) {z n : Int} (h : InZN a0 a1 a2 z n) : plan_Lengths k a0 a1 a2 a3 a4 z n = some (false, lensL a0 z n) := by
  obtain ⟨z0, z1, n0, n1⟩ := h
  have hd := g.1
  have hd' := g.2.1
  have hc := cap_bound g
  unfold plan_Lengths
  rw [good_val, decide_eq_true g, zones_yes k g, cap_yes k g]
  simp only [optb, Bool.not_true, cond_false]
  rw [decide_eq_false (show ¬ z < 0 by omega), cond_false, decide_eq_false (show ¬ a1 - 3 ≤ z by omega), cond_false, decide_eq_false (show ¬ n < 0 by omega), cond_false, decide_eq_false (show ¬ (a0 - 1) * a2 < n by omega)]
  simp only [plan_Lengths_j0, plan_Lengths_k1, cond_false]
  have hr := lenV_bounds g (zone := z) n0 n1 (Int.le_refl 0) (show 0 < a0 by omega)
  have h6 := g.2.2.2.2.2.1
  rw [decide_eq_true (show 0 ≤ a0 by omega), decide_eq_true (Int.le_refl a0), decide_eq_true (show a0 ≤ 1099511627776 by omega), w64 (n := a0 - 1) (by omega) (by omega), decide_eq_false (show ¬ a0 - 1 = 0 by omega), tdiv_pos n0, w64 (n := n / (a0 - 1)) (by omega) (by omega), lenI_eq, List.length_replicate, show ((a0.toNat : Nat) : Int) = a0 by omega]
  simp only [Bool.and_self, cond_true, cond_false]
  exact lengths_loop _ k g z0 z1 n0 n1 _ k 0 _ (Int.le_refl 0) (by omega) rfl (by omega) (by rw [List.length_replicate]; omega) (fun q q0 q1 => absurd q1 (by omega))
theorem lengths_out (k : Nat) {z n : Int} (h : ¬ (GG a0 a1 a2 a3 a4 ∧ InZN a0 a1 a2 z n)) : plan_Lengths k a0 a1 a2 a3 a4 z n = some (true, []) := by
  unfold plan_Lengths
  rw [good_val]
  by_cases g : GG a0 a1 a2 a3 a4
  · rw [decide_eq_true g, zones_yes k g, cap_yes k g]
    simp only [optb, Bool.not_true, cond_false]
    by_cases h1 : z < 0
    · rw [decide_eq_true h1]; rfl
    rw [decide_eq_false h1, cond_false]
    by_cases h2 : a1 - 3 ≤ z
    · rw [decide_eq_true h2]; rfl
    rw [decide_eq_false h2, cond_false]
    by_cases h3 : n < 0
    · rw [decide_eq_true h3]; rfl
    rw [decide_eq_false h3, cond_false, decide_eq_true (show (a0 - 1) * a2 < n by have : ¬ InZN a0 a1 a2 z n := fun x => h ⟨g, x⟩; unfold InZN at this; omega)]; rfl
  · rw [decide_eq_false g]; rfl
end
/-! ### what Decide says -/
noncomputable def moreV (W L : List Int) (m : Int) : Nat → List Int
  | 0 => []
  | n + 1 => bif dc ((n : Int) ≠ m ∧ lat W n < lat L n) then moreV W L m n ++ [(n : Int)] else moreV W L m n
theorem moreV_len (W L : List Int) (m : Int) (n : Nat) : (moreV W L m n).length ≤ n := by
  induction n with
  | zero => exact Nat.le_refl 0
  | succ n ih =>
    unfold moreV
    cases dc _ with
    | true => rw [cond_true, List.length_append, List.length_singleton]; omega
    | false => rw [cond_false]; omega
theorem moreV_mem (W L : List Int) (m : Int) (n : Nat) : ∀ x ∈ moreV W L m n, 0 ≤ x ∧ x < n ∧ x ≠ m ∧ lat W x < lat L x := by
  induction n with
  | zero => intro x h; exact absurd h List.not_mem_nil
  | succ n ih =>
    intro x h
    unfold moreV at h
    by_cases hc : (n : Int) ≠ m ∧ lat W n < lat L n
    · rw [dc_t hc, cond_true, List.mem_append, List.mem_singleton] at h
      rcases h with h | rfl
      · have := ih x h; exact ⟨this.1, by omega, this.2.2⟩
      · exact ⟨by omega, by omega, hc⟩
    · rw [dc_f hc, cond_false] at h
      have := ih x h; exact ⟨this.1, by omega, this.2.2⟩
theorem moreV_congr {W L W' L' : List Int} {m : Int} (n : Nat) (h : ∀ q : Nat, q < n → (q : Int) ≠ m → (lat W q < lat L q ↔ lat W' q < lat L' q)) : moreV W L m n = moreV W' L' m n := by
  induction n with
  | zero => rfl
  | succ n ih =>
    unfold moreV
    rw [ih (fun q hq => h q (by omega)), dc_congr (P := (n : Int) ≠ m ∧ lat W n < lat L n) (Q := (n : Int) ≠ m ∧ lat W' n < lat L' n) ⟨fun x => ⟨x.1, (h n (by omega) x.1).1 x.2⟩, fun x => ⟨x.1, (h n (by omega) x.1).2 x.2⟩⟩]
theorem moreV_nil {W L : List Int} {m : Int} (n : Nat) (h : ∀ q : Nat, q < n → (q : Int) ≠ m → ¬ lat W q < lat L q) : moreV W L m n = [] := by
  induction n with
  | zero => rfl
  | succ n ih => unfold moreV; rw [ih (fun q hq => h q (by omega)), dc_f (fun x => h n (by omega) x.1 x.2)]; rfl
def DecOK (a0 a1 a2 a3 a4 z n : Int) (L : List Int) (m : Int) : Prop := (GG a0 a1 a2 a3 a4 ∧ InZN a0 a1 a2 z n) ∧ (L.length : Int) = a0 ∧ -1 ≤ m ∧ m < a0 ∧ ∀ q : Int, 0 ≤ q → q < L.length → 0 ≤ lat L q ∧ lat L q ≤ a2
def OneLess (a0 z n : Int) (W L more less : List Int) : Prop := more = [] ∧ 0 ≤ n / (a0 - 1) - 1 ∧ ∃ s, less = [s] ∧ s = (z + (n / (a0 - 1) - 1)) % a0 ∧ lat L s = lat W s - 1
noncomputable def decV (a0 z n : Int) (W L more less : List Int) : Int × (Int × Int) :=
  bif dc (more = [] ∧ less = []) then (0, 0, 0) else bif decide (n = 0) then (3, 0, 0) else bif dc (OneLess a0 z n W L more less) then (1, less.headD 0, n / (a0 - 1) - 1) else (2, 0, 0)
section
variable {a0 a1 a2 a3 a4 : Int}
theorem dec_loop {R : Type} (e0 : List Int → List Int → Option R) (k : Nat) (m : Int) {L W : List Int} (hl : L.length ≤ 100) (hw : W.length = L.length) : ∀ (u j i : Nat), L.length - i = u → i ≤ L.length → u < j →
    mend_Decide_l1 e0 k m L L.length W j i (moreV W L m i) (moreV L W m i) = e0 (moreV W L m L.length) (moreV L W m L.length) := by
  intro u
  induction u with
  | zero =>
    intro j i hu hi hj
    obtain ⟨j, rfl⟩ : ∃ u, j = u + 1 := ⟨j - 1, by omega⟩
    rw [mend_Decide_l1]; unfold mend_Decide_l1s
    rw [decide_eq_false (by omega), cond_false, show i = L.length by omega]
  | succ u ih =>
    intro j i hu hi hj
    obtain ⟨j, rfl⟩ : ∃ u, j = u + 1 := ⟨j - 1, by omega⟩
    rw [← ih j (i + 1) (by omega) (by omega) (by omega)]
    rw [mend_Decide_l1]; unfold mend_Decide_l1s mend_Decide_j2 mend_Decide_j3 mend_Decide_k2
    have hi' : (i : Int) < L.length := by omega
    have h1 := moreV_len W L m i
    have h2 := moreV_len L W m i
    rw [decide_eq_true hi', decide_eq_true (show (0 : Int) ≤ i by omega), cond_true, cond_true, lat_some (by omega) hi', lenI_eq, decide_eq_true (show (i : Int) < W.length by omega), lat_some (L := W) (by omega) (by omega)]
    simp only [optb, Bool.and_self, cond_true, List.length_singleton]
    rw [decide_eq_true (show (moreV W L m i).length + 1 ≤ 1099511627776 by omega), decide_eq_true (show (moreV L W m i).length + 1 ≤ 1099511627776 by omega), w64 (by omega) (by omega)]
    show _ = mend_Decide_l1 e0 k m L L.length W j ((i + 1 : Nat) : Int) (bif dc ((i : Int) ≠ m ∧ lat W i < lat L i) then moreV W L m i ++ [(i : Int)] else moreV W L m i) (bif dc ((i : Int) ≠ m ∧ lat L i < lat W i) then moreV L W m i ++ [(i : Int)] else moreV L W m i)
    by_cases e : (i : Int) = m
    · rw [decide_eq_true e, dc_f (fun x => x.1 e), dc_f (fun x => x.1 e)]; rfl
    · rw [decide_eq_false e, cond_false]
      by_cases c1 : lat W i < lat L i
      · rw [decide_eq_true c1, dc_t ⟨e, c1⟩, dc_f (fun x => by have := x.2; omega)]; rfl
      · rw [decide_eq_false c1, dc_f (fun x => c1 x.2)]
        by_cases c2 : lat L i < lat W i
        · rw [decide_eq_true c2, dc_t ⟨e, c2⟩]; rfl
        · rw [decide_eq_false c2, dc_f (fun x => c2 x.2)]; rfl
theorem dec_end (k : Nat) (g : GG a0 a1 a2 a3 a4) {z n : Int} (hz : InZN a0 a1 a2 z n) {L W more less : List Int} (hL : (L.length : Int) = a0) (hW : (W.length : Int) = a0) (hm : more.length ≤ 20) (hs : less.length ≤ 20) (hms : ∀ x ∈ less, 0 ≤ x ∧ x < a0) (hwb : ∀ q : Int, 0 ≤ q → q < a0 → 0 ≤ lat W q ∧ lat W q ≤ 256) :
    (bif (decide ((wrap64 (a0 - (1 : Int))) = (0 : Int))) then none
      else bif (decide ((wrap64 ((lenI more) + (lenI less))) = (0 : Int))) then some (((0 : Int), ((0 : Int), (0 : Int))), (0 : Int))
      else mend_Decide_j4 (fun v va vb vc => some ((va, (vb, vc)), v)) (mend_Decide_j6 (fun v va vb vc => some ((va, (vb, vc)), v)) k) k z L (wrap64 ((wrap64 (Int.tdiv n (wrap64 (a0 - (1 : Int))))) - (1 : Int))) (decide (n = (0 : Int))) a0 a1 a2 a3 a4 W more less)
      = some (decV a0 z n W L more less, 0) := by
  obtain ⟨z0, z1, n0, n1⟩ := hz
  have h1 := g.1
  have h1' := g.2.1
  have h6 := g.2.2.2.2.2.1
  have hr := lenV_bounds g (zone := z) n0 n1 (Int.le_refl 0) (show 0 < a0 by omega)
  rw [w64 (n := a0 - 1) (by omega) (by omega), decide_eq_false (show ¬ a0 - 1 = 0 by omega), cond_false, lenI_eq, lenI_eq, w64 (n := (more.length : Int) + less.length) (by omega) (by omega), tdiv_pos n0, w64 (n := n / (a0 - 1)) (by omega) (by omega), w64 (n := n / (a0 - 1) - 1) (by omega) (by omega)]
  unfold decV
  by_cases c0 : more = [] ∧ less = []
  · obtain ⟨rfl, rfl⟩ := c0
    rw [dc_t ⟨rfl, rfl⟩]; rfl
  rw [dc_f c0, decide_eq_false (show ¬ (more.length : Int) + less.length = 0 from fun x => c0 ⟨List.length_eq_zero_iff.1 (by omega), List.length_eq_zero_iff.1 (by omega)⟩)]
  simp only [cond_false, mend_Decide_j4]
  by_cases c1 : n = 0
  · rw [decide_eq_true c1]; rfl
  rw [decide_eq_false c1]
  simp only [cond_false, lenI_eq, mend_Decide_j6, mend_Decide_k3, mend_Decide_k4]
  by_cases c2 : more = []
  · subst c2
    rw [List.length_nil, decide_eq_true (show ((0 : Nat) : Int) = 0 from rfl), cond_true]
    by_cases c3 : (less.length : Int) = 1
    · obtain ⟨s, rfl⟩ := List.length_eq_one_iff.1 (show less.length = 1 by omega)
      obtain ⟨s0, s1⟩ := hms s (List.mem_singleton.2 rfl)
      rw [List.length_singleton, decide_eq_true (show ((1 : Nat) : Int) = 1 from rfl), decide_eq_true (show (0 : Int) < ((1 : Nat) : Int) by decide), cond_true, cond_true]
      rw [show ([s] : List Int)[(0 : Int).toNat]? = some s from rfl]
      simp only [optb, cond_true]
      by_cases c4 : 0 ≤ n / (a0 - 1) - 1
      · rw [decide_eq_true c4, cond_true, par_yes k g ⟨z0, z1, c4, by omega⟩]
        simp only [optb]
        have hwl : -9223372036854775808 ≤ lat W s - 1 ∧ lat W s - 1 ≤ 9223372036854775807 := by have := hwb s s0 s1; omega
        by_cases c5 : s = (z + (n / (a0 - 1) - 1)) % a0
        · rw [decide_eq_true c5, cond_true, decide_eq_true s0, cond_true, lat_some (L := L) s0 (by omega)]
          simp only
          rw [decide_eq_true (show s < (W.length : Int) by omega), lat_some (L := W) s0 (by omega)]
          simp only [Bool.and_self, cond_true]
          rw [w64 hwl.1 hwl.2]
          by_cases c6 : lat L s = lat W s - 1
          · rw [decide_eq_true c6, dc_t (show OneLess a0 z n W L [] [s] from ⟨rfl, c4, s, rfl, c5, c6⟩)]; rfl
          · rw [decide_eq_false c6, dc_f (fun x : OneLess a0 z n W L [] [s] => by
              obtain ⟨_, _, t, ht, _, h⟩ := x
              rw [List.singleton_inj.1 ht] at c6
              exact c6 h)]; rfl
        · rw [decide_eq_false c5, dc_f (fun x : OneLess a0 z n W L [] [s] => by
              obtain ⟨_, _, t, ht, h, _⟩ := x
              rw [List.singleton_inj.1 ht] at c5
              exact c5 h)]; rfl
      · rw [decide_eq_false c4, dc_f (fun x : OneLess a0 z n W L [] [s] => c4 x.2.1)]; rfl
    · rw [decide_eq_false c3, dc_f (fun x : OneLess a0 z n W L [] less => by
        obtain ⟨_, _, t, rfl, _⟩ := x
        exact c3 rfl)]; rfl
  · rw [decide_eq_false (show ¬ (more.length : Int) = 0 from fun x => c2 (List.length_eq_zero_iff.1 (by omega))), dc_f (fun x : OneLess a0 z n W L more less => c2 x.1)]; rfl
theorem dec_in (k : Nat) (hk : 200 ≤ k) (la : Bool) (L : List Int) (m : Int) {z n : Int} (h : DecOK a0 a1 a2 a3 a4 z n L m) :
    mend_Decide k a0 a1 a2 a3 a4 z n la L m = some (decV a0 z n (lensL a0 z n) L (moreV (lensL a0 z n) L m L.length) (moreV L (lensL a0 z n) m L.length), 0) := by
  obtain ⟨⟨g, hz⟩, hl, m0, m1, hq⟩ := h
  have h1 := g.1
  have h1' := g.2.1
  have h6 := g.2.2.2.2.2.1
  unfold mend_Decide
  rw [lengths_in k (by omega) g hz]
  simp only [optb, Bool.false_and, cond_false, lenI_eq]
  rw [decide_eq_true hl, decide_eq_false (show ¬ m < -1 by omega), decide_eq_false (show ¬ a0 ≤ m by omega)]
  simp only [Bool.not_true, cond_false]
  have hwl := lensL_length (d := a0) (by omega) z n
  rw [loopAll (mend_Decide_i58_3_l0 _ _ k L L.length a2) 0 L.length (fun _ => True) _ none
    (fun j i i0 i1 hp => by
      rw [mend_Decide_i58_3_l0]; unfold mend_Decide_i58_3_l0s mend_Decide_i58_3_j1
      have := hq i i0 i1
      rw [decide_eq_true i1, decide_eq_true i0, cond_true, cond_true, lat_some i0 i1]
      simp only [optb]
      rw [decide_eq_false (show ¬ lat L i < 0 by omega), decide_eq_false (show ¬ a2 < lat L i by omega), cond_false, cond_false, w64 (by omega) (by omega)])
    (fun j i i0 i1 hp => absurd trivial hp)
    (fun j i i0 i1 => by
      rw [mend_Decide_i58_3_l0]; unfold mend_Decide_i58_3_l0s
      rw [decide_eq_false (by omega), cond_false]) k 0 (by omega) (by omega), dc_t (fun _ _ _ => trivial), cond_true]
  simp only [mend_Decide_j0, cond_false, mend_Decide_k1, lenI_eq]
  have hloop := dec_loop (fun more less => bif (decide ((wrap64 (a0 - (1 : Int))) = (0 : Int))) then none
      else bif (decide ((wrap64 ((lenI more) + (lenI less))) = (0 : Int))) then some (((0 : Int), ((0 : Int), (0 : Int))), (0 : Int))
      else mend_Decide_j4 (fun v va vb vc => some ((va, (vb, vc)), v)) (mend_Decide_j6 (fun v va vb vc => some ((va, (vb, vc)), v)) k) k z L (wrap64 ((wrap64 (Int.tdiv n (wrap64 (a0 - (1 : Int))))) - (1 : Int))) (decide (n = (0 : Int))) a0 a1 a2 a3 a4 (lensL a0 z n) more less) k m (L := L) (W := lensL a0 z n) (by omega) (by omega) L.length k 0 (by omega) (by omega) (by omega)
  have hx := moreV_len (lensL a0 z n) L m L.length
  have hy := moreV_len L (lensL a0 z n) m L.length
  have he := dec_end k g hz (W := lensL a0 z n) (more := moreV (lensL a0 z n) L m L.length) (less := moreV L (lensL a0 z n) m L.length) hl hwl (by omega) (by omega)
    (fun x hx => by have := moreV_mem L (lensL a0 z n) m L.length x hx; omega) (fun q q0 q1 => by
      rw [lensL_at q0 q1]
      have := lenV_bounds g (zone := z) hz.2.2.1 hz.2.2.2 q0 q1
      omega)
  simp only [lenI_eq] at hloop he
  exact hloop.trans he
end
/-! ### what a view may hold -/
def okx (rows x : Int) : Prop := 0 ≤ x ∧ x ≤ rows
def CAN (a0 a1 a2 a3 a4 : Int) (L : List Int) (m : Int) : Prop := GG a0 a1 a2 a3 a4 ∧ (L.length : Int) = a0 ∧ -1 ≤ m ∧ m < a0 ∧ ∀ q : Int, 0 ≤ q → q < L.length → okx a2 (lat L q)
/-! ### the other telling: where a block lies -/
theorem refdrive_loop {R : Type} (e0 : Int → Option R) (k : Nat) {kk d : Int} (hd : 3 ≤ d) (hd2 : d ≤ 16) (hk : kk ≤ 1000) : ∀ (u j : Nat) (i x : Int), 0 ≤ i → i ≤ kk + 1 → (kk + 1 - i).toNat = u → u < j → 0 ≤ x → x < d →
    corbelref04_Drive_l0 e0 k kk d j x i = e0 ((x + (kk + 1 - i)) % d) := by
  intro u
  induction u with
  | zero =>
    intro j i x i0 i1 hu hj x0 x1
    obtain ⟨j, rfl⟩ : ∃ u, j = u + 1 := ⟨j - 1, by omega⟩
    rw [corbelref04_Drive_l0]; unfold corbelref04_Drive_l0s
    rw [decide_eq_false (by omega), cond_false, show kk + 1 - i = 0 by omega, Int.add_zero, Int.emod_eq_of_lt x0 x1]
  | succ u ih =>
    intro j i x i0 i1 hu hj x0 x1
    obtain ⟨j, rfl⟩ : ∃ u, j = u + 1 := ⟨j - 1, by omega⟩
    rw [corbelref04_Drive_l0]; unfold corbelref04_Drive_l0s corbelref04_Drive_j1 corbelref04_Drive_k0
    rw [decide_eq_true (show i ≤ kk by omega), cond_true, w64 (n := x + 1) (by omega) (by omega), w64 (n := i + 1) (by omega) (by omega)]
    by_cases h : x + 1 = d
    · rw [decide_eq_true h, cond_true]
      refine (ih j (i + 1) 0 (by omega) (by omega) (by omega) (by omega) (Int.le_refl 0) (by omega)).trans ?_
      rw [show x + (kk + 1 - i) = 0 + (kk + 1 - (i + 1)) + d by omega, Int.add_emod_right]
    · rw [decide_eq_false h, cond_false]
      refine (ih j (i + 1) (x + 1) (by omega) (by omega) (by omega) (by omega) (by omega) (by omega)).trans ?_
      rw [show x + 1 + (kk + 1 - (i + 1)) = x + (kk + 1 - i) by omega]
theorem refplace_loop {R : Type} (e0 : Int → Int → Option R) (k : Nat) {d : Int} (hd : 3 ≤ d) (hd2 : d ≤ 16) : ∀ (u j : Nat) (b r : Int), 0 ≤ b → b ≤ 100000 → (b / (d - 1)).toNat = u → u < j → 0 ≤ r → r + b / (d - 1) ≤ 1000000 →
    corbelref04_Place_l1 e0 k d j b r = e0 (b % (d - 1)) (r + b / (d - 1)) := by
  intro u
  induction u with
  | zero =>
    intro j b r b0 b1 hu hj r0 r1
    obtain ⟨j, rfl⟩ : ∃ u, j = u + 1 := ⟨j - 1, by omega⟩
    have hq := Int.ediv_nonneg b0 (show 0 ≤ d - 1 by omega)
    have hm := Int.emod_add_mul_ediv b (d - 1)
    have hl := Int.emod_lt_of_pos b (show 0 < d - 1 by omega)
    rw [show b / (d - 1) = 0 by omega, Int.mul_zero] at hm
    rw [corbelref04_Place_l1]; unfold corbelref04_Place_l1s
    rw [w64 (n := d - 1) (by omega) (by omega), decide_eq_false (show ¬ d - 1 ≤ b by omega), cond_false, show b / (d - 1) = 0 by omega, Int.add_zero]
    congr 1; omega
  | succ u ih =>
    intro j b r b0 b1 hu hj r0 r1
    obtain ⟨j, rfl⟩ : ∃ u, j = u + 1 := ⟨j - 1, by omega⟩
    have hm := Int.emod_add_mul_ediv b (d - 1)
    have hn := Int.emod_nonneg b (show d - 1 ≠ 0 by omega)
    have hle : d - 1 ≤ (d - 1) * (b / (d - 1)) := by
      have := Int.mul_le_mul_of_nonneg_left (show 1 ≤ b / (d - 1) by omega) (show 0 ≤ d - 1 by omega)
      omega
    have e1 : (b - (d - 1)) / (d - 1) = b / (d - 1) - 1 := by
      rw [show b - (d - 1) = b + (-1) * (d - 1) by omega, Int.add_mul_ediv_right _ _ (by omega)]; omega
    have e2 : (b - (d - 1)) % (d - 1) = b % (d - 1) := Int.sub_emod_right ..
    rw [corbelref04_Place_l1]; unfold corbelref04_Place_l1s
    rw [w64 (n := d - 1) (by omega) (by omega), decide_eq_true (show d - 1 ≤ b by omega), cond_true, w64 (n := b - (d - 1)) (by omega) (by omega), w64 (n := r + 1) (by omega) (by omega), ih j _ _ (by omega) (by omega) (by omega) (by omega) (by omega) (by omega), e1, e2]
    congr 1; omega
section
variable {a0 a1 a2 a3 a4 : Int}
theorem refplace_yes (k : Nat) (hk : 1000 ≤ k) (g : GG a0 a1 a2 a3 a4) {z b : Int} (z0 : 0 ≤ z) (z1 : z < a1 - 3) (b0 : 0 ≤ b) (b1 : b < (a0 - 1) * a2) :
    corbelref04_Place k a0 a1 a2 a3 a4 z b = some (b / (a0 - 1), sl a0 z (b / (a0 - 1)) (b % (a0 - 1)), true) := by
  have hc := cap_bound g
  have hr := block_row (rows := a2) g.1 b0 b1
  have g' := g
  obtain ⟨h1, h2, h3, h4, h5, h6, _⟩ := g'
  unfold corbelref04_Place
  rw [refgood_val, decide_eq_true g]
  simp only [optb, Bool.not_true, cond_false]
  rw [decide_eq_false (show ¬ z < 0 by omega), w64 (n := a1 - 4) (by omega) (by omega), decide_eq_false (show ¬ a1 - 4 < z by omega), decide_eq_false (show ¬ b < 0 by omega), w64 (n := a0 - 1) (by omega) (by omega), w64 (n := (a0 - 1) * a2) (by omega) (by omega), decide_eq_false (show ¬ (a0 - 1) * a2 ≤ b by omega)]
  simp only [cond_false, corbelref04_Place_j0, corbelref04_Place_k1]
  rw [refplace_loop _ k h1 h2 _ k b 0 b0 (by omega) rfl (by omega) (Int.le_refl 0) (by omega), Int.zero_add]
  unfold corbelref04_Drive
  have e0 := Int.emod_nonneg (z + b / (a0 - 1)) (show a0 ≠ 0 by omega)
  have e1 := Int.emod_lt_of_pos (z + b / (a0 - 1)) (show 0 < a0 by omega)
  rw [decide_eq_false (show ¬ a0 = 0 by omega), cond_false, w64 (n := z + b / (a0 - 1)) (by omega) (by omega), tmod_pos (by omega), refdrive_loop _ k h1 h2 (by omega) _ k 0 _ (Int.le_refl 0) (by omega) rfl (by omega) e0 e1]
  simp only [optb]
  unfold sl
  rw [show (z + b / (a0 - 1)) % a0 + (b % (a0 - 1) + 1 - 0) = (z + b / (a0 - 1)) % a0 + 1 + b % (a0 - 1) by omega]
theorem refplace_no (k : Nat) {z b : Int} (h : ¬ (GG a0 a1 a2 a3 a4 ∧ 0 ≤ z ∧ z < a1 - 3 ∧ 0 ≤ b ∧ b < (a0 - 1) * a2)) :
    corbelref04_Place k a0 a1 a2 a3 a4 z b = some (0, 0, false) := by
  unfold corbelref04_Place
  rw [refgood_val]
  by_cases g : GG a0 a1 a2 a3 a4
  · have hc := cap_bound g
    have g' := g
    obtain ⟨h1, h2, h3, h4, h5, h6, _⟩ := g'
    rw [decide_eq_true g]
    simp only [optb, Bool.not_true, cond_false]
    rw [w64 (n := a1 - 4) (by omega) (by omega), w64 (n := a0 - 1) (by omega) (by omega), w64 (n := (a0 - 1) * a2) (by omega) (by omega)]
    by_cases c1 : z < 0
    · rw [decide_eq_true c1]; rfl
    rw [decide_eq_false c1]
    by_cases c2 : a1 - 4 < z
    · rw [decide_eq_true c2]; rfl
    rw [decide_eq_false c2]
    by_cases c3 : b < 0
    · rw [decide_eq_true c3]; rfl
    rw [decide_eq_false c3, decide_eq_true (show (a0 - 1) * a2 ≤ b by
      by_cases e : (a0 - 1) * a2 ≤ b
      · exact e
      · exact absurd ⟨g, by omega, by omega, by omega, by omega⟩ h)]; rfl
  · rw [decide_eq_false g]; rfl
end
theorem refcan_val {a0 a1 a2 a3 a4 : Int} (k : Nat) (hk : 100 ≤ k) (va : Bool) (L : List Int) (m : Int) (vd : Bool) (ve : List (Int × Int)) :
    corbelref12_Can k a0 a1 a2 a3 a4 va L m vd ve = some (dc (CAN a0 a1 a2 a3 a4 L m)) := by
  unfold corbelref12_Can
  rw [refgood_val]
  simp only [optb, lenI_eq]
  by_cases g : GG a0 a1 a2 a3 a4
  · rw [decide_eq_true g, Bool.not_true, cond_false]
    by_cases h1 : (L.length : Int) = a0
    · rw [decide_eq_true h1, Bool.not_true, cond_false]
      by_cases h2 : m < -1
      · rw [decide_eq_true h2, dc_f (fun x => by have := x.2.2.1; omega)]; rfl
      · rw [decide_eq_false h2, cond_false]
        by_cases h3 : a0 ≤ m
        · rw [decide_eq_true h3, dc_f (fun x => by have := x.2.2.2.1; omega)]; rfl
        · rw [decide_eq_false h3]
          simp only [corbelref12_Can_j0, cond_false, corbelref12_Can_k1]
          have hd : a0 ≤ 16 := g.2.1
          rw [loopAll (corbelref12_Can_l1 (fun v => some v) (some true) k a2 L) 0 L.length (fun q => okx a2 (lat L q)) (some true) (some false)
            (fun j i i0 i1 hp => by
              rw [corbelref12_Can_l1]; unfold corbelref12_Can_l1s corbelref12_Can_j2 corbelref12_Can_k3
              rw [lenI_eq, decide_eq_true i1, decide_eq_true i0, cond_true, cond_true, lat_some i0 i1]
              simp only [optb]
              rw [decide_eq_false (show ¬ lat L i < 0 from fun x => by have := hp.1; omega), decide_eq_false (show ¬ a2 < lat L i from fun x => by have := hp.2; omega)]
              simp only [cond_false, cond_true]
              rw [w64 (by omega) (by omega)])
            (fun j i i0 i1 hp => by
              rw [corbelref12_Can_l1]; unfold corbelref12_Can_l1s corbelref12_Can_j2 corbelref12_Can_k2
              rw [lenI_eq, decide_eq_true i1, decide_eq_true i0, cond_true, cond_true, lat_some i0 i1]
              simp only [optb]
              by_cases hx : lat L i < 0
              · rw [decide_eq_true hx, cond_true, cond_true]
              · rw [decide_eq_false hx, cond_false, cond_true, decide_eq_true (show a2 < lat L i from by have : ¬ (0 ≤ lat L i ∧ lat L i ≤ a2) := hp; omega), cond_true])
            (fun j i i0 i1 => by
              rw [corbelref12_Can_l1]; unfold corbelref12_Can_l1s
              rw [lenI_eq, decide_eq_false (by omega), cond_false]) k 0 (by omega) (by omega)]
          have e : dc (∀ q : Int, 0 ≤ q → q < L.length → okx a2 (lat L q)) = dc (CAN a0 a1 a2 a3 a4 L m) := dc_congr ⟨fun x => ⟨g, h1, by omega, by omega, x⟩, fun x => x.2.2.2.2⟩
          rw [e]
          cases dc _ <;> rfl
    · rw [decide_eq_false h1, dc_f (fun x => h1 x.2.1)]; rfl
  · rw [decide_eq_false g, dc_f (fun x => g x.1)]; rfl
section
variable {a0 a1 a2 a3 a4 : Int}
theorem dec_out (k : Nat) (hk : 200 ≤ k) (la : Bool) (L : List Int) (m : Int) {z n : Int} (h : ¬ DecOK a0 a1 a2 a3 a4 z n L m) : mend_Decide k a0 a1 a2 a3 a4 z n la L m = some ((0, 0, 0), 1) := by
  unfold mend_Decide
  by_cases c0 : GG a0 a1 a2 a3 a4 ∧ InZN a0 a1 a2 z n
  · rw [lengths_in k (by omega) c0.1 c0.2]
    simp only [optb, Bool.false_and, cond_false, lenI_eq]
    by_cases c1 : (L.length : Int) = a0
    · rw [decide_eq_true c1, Bool.not_true, cond_false]
      by_cases c2 : m < -1
      · rw [decide_eq_true c2]; rfl
      rw [decide_eq_false c2, cond_false]
      by_cases c3 : a0 ≤ m
      · rw [decide_eq_true c3]; rfl
      rw [decide_eq_false c3, cond_false]
      have hd := c0.1.2.1
      rcases loopUp (mend_Decide_i58_3_l0 (fun v =>
    mend_Decide_j0 (fun v_13817 va_13823 vb_13824 vc_13825 => mend_Decide_k0 k v_13817 va_13823 vb_13824 vc_13825 false (lensL a0 z n)) (mend_Decide_k1 k a0 a1 a2 a3 a4 L m n z false (lensL a0 z n)) k (decide ((0 : Int) ≤ v))) (mend_Decide_j0 (fun v_13817 va_13823 vb_13824 vc_13825 => mend_Decide_k0 k v_13817 va_13823 vb_13824 vc_13825 false (lensL a0 z n)) (mend_Decide_k1 k a0 a1 a2 a3 a4 L m n z false (lensL a0 z n)) k false) k L L.length a2) 0 L.length (fun q => 0 ≤ lat L q ∧ lat L q ≤ a2) (mend_Decide_j0 (fun v_13817 va_13823 vb_13824 vc_13825 => mend_Decide_k0 k v_13817 va_13823 vb_13824 vc_13825 false (lensL a0 z n)) (mend_Decide_k1 k a0 a1 a2 a3 a4 L m n z false (lensL a0 z n)) k false) (fun _ => some ((0, 0, 0), 1))
        (fun j i i0 i1 hp => by
          rw [mend_Decide_i58_3_l0]; unfold mend_Decide_i58_3_l0s mend_Decide_i58_3_j1
          rw [decide_eq_true i1, decide_eq_true i0, cond_true, cond_true, lat_some i0 i1]
          simp only [optb]
          rw [decide_eq_false (show ¬ lat L i < 0 by omega), decide_eq_false (show ¬ a2 < lat L i by omega), cond_false, cond_false, w64 (by omega) (by omega)])
        (fun j i i0 i1 hp => by
          rw [mend_Decide_i58_3_l0]; unfold mend_Decide_i58_3_l0s mend_Decide_i58_3_j1
          rw [decide_eq_true i1, decide_eq_true i0, cond_true, cond_true, lat_some i0 i1]
          simp only [optb]
          by_cases hx : lat L i < 0
          · rw [decide_eq_true hx, cond_true, cond_true, decide_eq_true i0]; rfl
          · rw [decide_eq_false hx, cond_false, decide_eq_true (show a2 < lat L i by omega), cond_true, decide_eq_true i0]; rfl)
        (fun j i i0 i1 => by
          rw [mend_Decide_i58_3_l0]; unfold mend_Decide_i58_3_l0s
          rw [decide_eq_false (by omega), cond_false]) _ k 0 (by omega) rfl (by omega) with ⟨h1, _⟩ | ⟨q, _, _, _, _, h5⟩
      · exact absurd ⟨c0, c1, by omega, by omega, h1⟩ h
      · exact h5
    · rw [decide_eq_false c1]; rfl
  · rw [lengths_out k c0]; rfl
end
section
variable {a0 a1 a2 a3 a4 : Int}
theorem want_loop {R : Type} (e0 : Int → Option R) (k : Nat) (hk : 1000 ≤ k) (g : GG a0 a1 a2 a3 a4) {z n s : Int} (hz : InZN a0 a1 a2 z n) (s0 : 0 ≤ s) (s1 : s < a0) : ∀ (u j : Nat) (b : Int), 0 ≤ b → b ≤ n → (n - b).toNat = u → u < j →
    corbelref15_Want_l0 e0 k z n s a0 a1 a2 a3 a4 j (lenV a0 z b s) b = e0 (lenV a0 z n s) := by
  have hc := cap_bound g
  have g' := g
  obtain ⟨h1, h2, h3, h4, h5, h6, _⟩ := g'
  intro u
  induction u with
  | zero =>
    intro j b b0 b1 hu hj
    obtain ⟨j, rfl⟩ : ∃ u, j = u + 1 := ⟨j - 1, by omega⟩
    rw [corbelref15_Want_l0]; unfold corbelref15_Want_l0s
    rw [decide_eq_false (by omega), cond_false, show b = n by omega]
  | succ u ih =>
    intro j b b0 b1 hu hj
    obtain ⟨j, rfl⟩ : ∃ u, j = u + 1 := ⟨j - 1, by omega⟩
    have hbn : b < (a0 - 1) * a2 := by have := hz.2.2.2; omega
    have hr := block_row (rows := a2) h1 b0 hbn
    have hbd := lenV_bounds g (zone := z) (n := b) b0 (by omega) s0 s1
    have hz0 := hz.1
    have hz1 := hz.2.1
    rw [← ih j (b + 1) (by omega) (by omega) (by omega) (by omega), lenV_step h1 b0 s0 s1]
    rw [corbelref15_Want_l0]; unfold corbelref15_Want_l0s corbelref15_Want_j1 corbelref15_Want_j2 corbelref15_Want_k0 corbelref15_Want_k1 corbelref15_Want_j3
    rw [decide_eq_true (show b < n by omega), cond_true, refplace_yes k hk g hz0 hz1 b0 hbn]
    simp only [optb]
    rw [w64 (n := a0 - 1) (by omega) (by omega), decide_eq_false (show ¬ a0 - 1 = 0 by omega), tmod_pos b0, w64 (n := a0 - 2) (by omega) (by omega), decide_eq_false (show ¬ a0 = 0 by omega), w64 (n := z + b / (a0 - 1)) (by omega) (by omega), tmod_pos (by omega), w64 (n := lenV a0 z b s + 1) (by omega) (by omega), w64 (n := lenV a0 z b s + 1 + 1) (by omega) (by omega), w64 (n := b + 1) (by omega) (by omega)]
    simp only [cond_false]
    by_cases c1 : s = sl a0 z (b / (a0 - 1)) (b % (a0 - 1))
    · rw [decide_eq_true c1.symm, if_pos c1]
      by_cases c2 : b % (a0 - 1) = a0 - 2
      · by_cases c3 : s = (z + b / (a0 - 1)) % a0
        · rw [decide_eq_true c2, decide_eq_true c3.symm, if_pos ⟨c2, c3⟩]; rfl
        · rw [decide_eq_true c2, decide_eq_false (fun x => c3 x.symm), if_neg (fun x => c3 x.2), Int.add_zero]; rfl
      · rw [decide_eq_false c2, if_neg (fun x => c2 x.1), Int.add_zero]; rfl
    · rw [decide_eq_false (fun x => c1 x.symm), if_neg c1, Int.add_zero]
      by_cases c2 : b % (a0 - 1) = a0 - 2
      · by_cases c3 : s = (z + b / (a0 - 1)) % a0
        · rw [decide_eq_true c2, decide_eq_true c3.symm, if_pos ⟨c2, c3⟩]; rfl
        · rw [decide_eq_true c2, decide_eq_false (fun x => c3 x.symm), if_neg (fun x => c3 x.2), Int.add_zero]; rfl
      · rw [decide_eq_false c2, if_neg (fun x => c2 x.1), Int.add_zero]; rfl
theorem want_val (k : Nat) (hk : 5000 ≤ k) (g : GG a0 a1 a2 a3 a4) {z n s : Int} (hz : InZN a0 a1 a2 z n) (s0 : 0 ≤ s) (s1 : s < a0) : corbelref15_Want k a0 a1 a2 a3 a4 z n s = some (lenV a0 z n s) := by
  unfold corbelref15_Want
  have hc := cap_bound g
  have := want_loop (fun n => some n) k (by omega) g hz s0 s1 n.toNat k 0 (Int.le_refl 0) hz.2.2.1 (by omega) (by have := hz.2.2.2; omega)
  rw [lenV_zero g.1 s0 s1] at this
  exact this
theorem refdec_loop {R : Type} (e0 : Int → Int → Int → Option R) (k : Nat) (hk : 5000 ≤ k) (g : GG a0 a1 a2 a3 a4) {z n : Int} (hz : InZN a0 a1 a2 z n) {L : List Int} (hl : (L.length : Int) = a0) (m : Int) : ∀ (u j i : Nat), L.length - i = u → i ≤ L.length → u < j →
    corbelref15_Decide_l1 e0 k z n L m a0 a1 a2 a3 a4 j (moreV (lensL a0 z n) L m i).length (moreV L (lensL a0 z n) m i).length ((moreV L (lensL a0 z n) m i).getLastD 0) i
      = e0 (moreV (lensL a0 z n) L m L.length).length (moreV L (lensL a0 z n) m L.length).length ((moreV L (lensL a0 z n) m L.length).getLastD 0) := by
  have hd := g.2.1
  intro u
  induction u with
  | zero =>
    intro j i hu hi hj
    obtain ⟨j, rfl⟩ : ∃ u, j = u + 1 := ⟨j - 1, by omega⟩
    rw [corbelref15_Decide_l1]; unfold corbelref15_Decide_l1s
    rw [decide_eq_false (by omega), cond_false, show i = L.length by omega]
  | succ u ih =>
    intro j i hu hi hj
    obtain ⟨j, rfl⟩ : ∃ u, j = u + 1 := ⟨j - 1, by omega⟩
    rw [← ih j (i + 1) (by omega) (by omega) (by omega)]
    rw [corbelref15_Decide_l1]; unfold corbelref15_Decide_l1s corbelref15_Decide_j2 corbelref15_Decide_k3 corbelref15_Decide_k2 corbelref15_Decide_j3
    have hi' : (i : Int) < L.length := by omega
    have h1 := moreV_len (lensL a0 z n) L m i
    have h2 := moreV_len L (lensL a0 z n) m i
    rw [decide_eq_true (show (i : Int) < a0 by omega), want_val k hk g hz (by omega) (by omega), decide_eq_true (show (0 : Int) ≤ i by omega), lat_some (by omega) hi', ← lensL_at (d := a0) (zone := z) (n := n) (s := (i : Int)) (by omega) (by omega)]
    simp only [optb, cond_true]
    rw [w64 (n := (i : Int) + 1) (by omega) (by omega), w64 (n := ((moreV (lensL a0 z n) L m i).length : Int) + 1) (by omega) (by omega), w64 (n := ((moreV L (lensL a0 z n) m i).length : Int) + 1) (by omega) (by omega)]
    show _ = corbelref15_Decide_l1 e0 k z n L m a0 a1 a2 a3 a4 j (bif dc ((i : Int) ≠ m ∧ lat (lensL a0 z n) i < lat L i) then moreV (lensL a0 z n) L m i ++ [(i : Int)] else moreV (lensL a0 z n) L m i).length (bif dc ((i : Int) ≠ m ∧ lat L i < lat (lensL a0 z n) i) then moreV L (lensL a0 z n) m i ++ [(i : Int)] else moreV L (lensL a0 z n) m i).length ((bif dc ((i : Int) ≠ m ∧ lat L i < lat (lensL a0 z n) i) then moreV L (lensL a0 z n) m i ++ [(i : Int)] else moreV L (lensL a0 z n) m i).getLastD 0) ((i + 1 : Nat) : Int)
    by_cases e : (i : Int) = m
    · rw [decide_eq_true e, dc_f (fun x => x.1 e), dc_f (fun x => x.1 e)]; rfl
    · rw [decide_eq_false e, cond_false]
      by_cases c1 : lat (lensL a0 z n) i < lat L i
      · rw [decide_eq_true c1, dc_t ⟨e, c1⟩, dc_f (fun x => by have := x.2; omega), decide_eq_false (show ¬ lat L i < lat (lensL a0 z n) i by omega)]
        simp only [cond_true, cond_false]
        rw [List.length_append, List.length_singleton]; rfl
      · rw [decide_eq_false c1, dc_f (fun x => c1 x.2)]
        by_cases c2 : lat L i < lat (lensL a0 z n) i
        · rw [decide_eq_true c2, dc_t ⟨e, c2⟩]
          simp only [cond_true, cond_false]
          rw [List.length_append, List.length_singleton, List.getLastD_concat]; rfl
        · rw [decide_eq_false c2, dc_f (fun x => c2 x.2)]; rfl
theorem refdec_out (k : Nat) (hk : 200 ≤ k) (la : Bool) (L : List Int) (m : Int) {z n : Int} (h : ¬ DecOK a0 a1 a2 a3 a4 z n L m) : corbelref15_Decide k a0 a1 a2 a3 a4 z n la L m = some (0, 0, 0, 1) := by
  unfold corbelref15_Decide
  rw [refcan_val k (by omega)]
  by_cases c : CAN a0 a1 a2 a3 a4 L m
  · have g := c.1
    have hc := cap_bound g
    have g' := g
    obtain ⟨h1, h2, h3, h4, h5, h6, _⟩ := g'
    rw [dc_t c]
    simp only [optb, Bool.not_true, cond_false]
    rw [w64 (n := a1 - 4) (by omega) (by omega), w64 (n := a0 - 1) (by omega) (by omega), w64 (n := (a0 - 1) * a2) (by omega) (by omega)]
    by_cases c1 : z < 0
    · rw [decide_eq_true c1]; rfl
    rw [decide_eq_false c1]
    by_cases c2 : a1 - 4 < z
    · rw [decide_eq_true c2]; rfl
    rw [decide_eq_false c2]
    by_cases c3 : n < 0
    · rw [decide_eq_true c3]; rfl
    rw [decide_eq_false c3]
    by_cases c4 : (a0 - 1) * a2 < n
    · rw [decide_eq_true c4]; rfl
    exact absurd ⟨⟨g, by omega, by omega, by omega, by omega⟩, c.2.1, c.2.2.1, c.2.2.2.1, c.2.2.2.2⟩ h
  · rw [dc_f c]; rfl
theorem refdec_in (k : Nat) (hk : 5000 ≤ k) (la : Bool) (L : List Int) (m : Int) {z n : Int} (h : DecOK a0 a1 a2 a3 a4 z n L m) : ∃ v, v = decV a0 z n (lensL a0 z n) L (moreV (lensL a0 z n) L m L.length) (moreV L (lensL a0 z n) m L.length) ∧
    corbelref15_Decide k a0 a1 a2 a3 a4 z n la L m = some (v.1, v.2.1, v.2.2, 0) := by
  obtain ⟨⟨g, hz⟩, hl, m0, m1, hq⟩ := h
  obtain ⟨z0, z1, n0, n1⟩ := hz
  have hz : InZN a0 a1 a2 z n := ⟨z0, z1, n0, n1⟩
  have hc := cap_bound g
  have g' := g
  obtain ⟨h1, h2, h3, h4, h5, h6, _⟩ := g'
  refine ⟨_, rfl, ?_⟩
  unfold corbelref15_Decide
  rw [refcan_val k (by omega), dc_t (show CAN a0 a1 a2 a3 a4 L m from ⟨g, hl, m0, m1, hq⟩)]
  simp only [optb, Bool.not_true, cond_false]
  rw [w64 (n := a1 - 4) (by omega) (by omega), w64 (n := a0 - 1) (by omega) (by omega), w64 (n := (a0 - 1) * a2) (by omega) (by omega), decide_eq_false (show ¬ z < 0 by omega), decide_eq_false (show ¬ a1 - 4 < z by omega), decide_eq_false (show ¬ n < 0 by omega), decide_eq_false (show ¬ (a0 - 1) * a2 < n by omega)]
  simp only [cond_false, corbelref15_Decide_j0, corbelref15_Decide_k1]
  have hx := moreV_len (lensL a0 z n) L m L.length
  have hy := moreV_len L (lensL a0 z n) m L.length
  have hmem := moreV_mem L (lensL a0 z n) m L.length
  have hr := lenV_bounds g (zone := z) n0 n1 (Int.le_refl 0) (show 0 < a0 by omega)
  refine (refdec_loop _ k hk g hz hl m L.length k 0 (by omega) (by omega) (by omega)).trans ?_
  generalize moreV (lensL a0 z n) L m L.length = more at hx ⊢
  generalize moreV L (lensL a0 z n) m L.length = less at hy hmem ⊢
  unfold decV
  simp only [corbelref15_Decide_j4, corbelref15_Decide_k4, corbelref15_Decide_k5, corbelref15_Decide_j5, corbelref15_Decide_j6, corbelref15_Decide_k6, corbelref15_Decide_k7, corbelref15_Decide_j7]
  rw [w64 (n := a0 - 1) (by omega) (by omega), decide_eq_false (show ¬ a0 - 1 = 0 by omega), tdiv_pos n0, w64 (n := n / (a0 - 1)) (by omega) (by omega), w64 (n := n / (a0 - 1) - 1) (by omega) (by omega), decide_eq_false (show ¬ a0 = 0 by omega)]
  simp only [cond_false]
  by_cases c0 : more = [] ∧ less = []
  · obtain ⟨rfl, rfl⟩ := c0
    rw [dc_t ⟨rfl, rfl⟩]; rfl
  rw [dc_f c0]
  by_cases cm : more = []
  · subst cm
    have hne : ¬ (less.length : Int) = 0 := fun x => c0 ⟨rfl, List.length_eq_zero_iff.1 (by omega)⟩
    simp only [List.length_nil]
    rw [decide_eq_true (show ((0 : Nat) : Int) = 0 from rfl), decide_eq_false (show ¬ (0 : Int) < ((0 : Nat) : Int) by decide), decide_eq_false hne]
    simp only [cond_true, cond_false]
    by_cases c1 : n = 0
    · rw [decide_eq_true c1]; rfl
    rw [decide_eq_false c1]
    simp only [cond_false]
    by_cases c2 : (1 : Int) < less.length
    · rw [decide_eq_true c2, dc_f (fun x : OneLess a0 z n (lensL a0 z n) L [] less => by
        obtain ⟨_, _, t, rfl, _⟩ := x
        exact absurd c2 (by rw [List.length_singleton]; decide))]; rfl
    rw [decide_eq_false c2]
    simp only [cond_false]
    obtain ⟨s, rfl⟩ := List.length_eq_one_iff.1 (show less.length = 1 by omega)
    have hs := hmem s (List.mem_singleton.2 rfl)
    rw [show ([s] : List Int).getLastD 0 = s from rfl, show ([s] : List Int).headD 0 = s from rfl]
    by_cases c4 : 0 ≤ n / (a0 - 1) - 1
    · rw [decide_eq_true c4, cond_true, w64 (n := z + (n / (a0 - 1) - 1)) (by omega) (by omega), tmod_pos (by omega), decide_eq_true hs.1, lat_some hs.1 hs.2.1, want_val k hk g hz hs.1 (by omega)]
      simp only [cond_true, optb]
      have hLs := hq s hs.1 hs.2.1
      rw [w64 (n := lat L s + 1) (by omega) (by omega), ← lensL_at (d := a0) (zone := z) (n := n) hs.1 (by omega)]
      by_cases c5 : s = (z + (n / (a0 - 1) - 1)) % a0
      · rw [decide_eq_true c5.symm]
        by_cases c6 : lat L s = lat (lensL a0 z n) s - 1
        · rw [decide_eq_true (show lat L s + 1 = lat (lensL a0 z n) s by omega), dc_t (show OneLess a0 z n (lensL a0 z n) L [] [s] from ⟨rfl, c4, s, rfl, c5, c6⟩)]; rfl
        · rw [decide_eq_false (show ¬ lat L s + 1 = lat (lensL a0 z n) s by omega), dc_f (fun x : OneLess a0 z n (lensL a0 z n) L [] [s] => by
            obtain ⟨_, _, t, ht, _, h⟩ := x
            rw [List.singleton_inj.1 ht] at c6
            exact c6 h)]; rfl
      · rw [decide_eq_false (fun x => c5 x.symm), dc_f (fun x : OneLess a0 z n (lensL a0 z n) L [] [s] => by
          obtain ⟨_, _, t, ht, h, _⟩ := x
          rw [List.singleton_inj.1 ht] at c5
          exact c5 h)]; rfl
    · rw [decide_eq_false c4, dc_f (fun x : OneLess a0 z n (lensL a0 z n) L [] [s] => c4 x.2.1)]; rfl
  · have hpos : (0 : Int) < more.length := by
      rcases Nat.eq_zero_or_pos more.length with h | h
      · exact absurd (List.length_eq_zero_iff.1 h) cm
      · omega
    rw [decide_eq_false (show ¬ (more.length : Int) = 0 by omega), decide_eq_true hpos]
    simp only [cond_true, cond_false]
    by_cases c1 : n = 0
    · rw [decide_eq_true c1]; rfl
    rw [decide_eq_false c1, dc_f (fun x : OneLess a0 z n (lensL a0 z n) L more less => cm x.1)]; rfl
end
theorem speaks15 (d : Nat) : corbellaw15_speaks (d + 300) = some true := by kernel_rfl
theorem decides_main (a0 a1 a2 a3 a4 z n m : Int) (la : Bool) (L : List Int) : corbellaw15_MendDecides (9700 + 300) a0 a1 a2 a3 a4 z n m la L = some true := by
  unfold corbellaw15_MendDecides
  rw [speaks15]
  simp only [optb, Bool.not_true, cond_false, lenI_eq]
  generalize hk : 9700 + 300 = k
  by_cases h1 : (40 : Int) < L.length
  · rw [decide_eq_true h1]; rfl
  rw [decide_eq_false h1]
  simp only [cond_false, corbellaw15_MendDecides_j0, corbellaw15_MendDecides_j1, List.nil_append]
  rw [decide_eq_true (show ([] : List Int).length + L.length ≤ 1099511627776 by rw [List.length_nil]; omega), cond_true]
  by_cases h : DecOK a0 a1 a2 a3 a4 z n L m
  · obtain ⟨v, hv, e⟩ := refdec_in k (by omega) la L m h
    rw [dec_in k (by omega) false L m h, ← hv, e]
    simp [optb]
  · rw [dec_out k (by omega) false L m h, refdec_out k (by omega) la L m h]; rfl
theorem MendDecides : MendDecidesPure := fun x0 x1 x2 _ _ _ => ⟨9700 + 300, decides_main _ _ _ _ _ _ _ _ _ _⟩
end Go.Proofs.Ytcikcikcjimcjaa.Pure
