/- PlanLengths: the pure statement, over numbers and lists alone; no conditions. -/
import Derived.Test.YtcikcikcjimcjaaStatPlanLengths
set_option linter.unusedVariables false
set_option linter.unusedSimpArgs false
namespace Go.Proofs.Ytcikcikcjimcjaa.Pure
open Go Go.RowKit Go.Proofs.Ytcikcikcjimcjaa.Ev
/-! ### whole numbers -/
theorem wf_i64 {n : Int} (h : Ty.wf (.int .i64) n) : -9223372036854775808 ≤ n ∧ n ≤ 9223372036854775807 := by
  have h : (Lit.int .i64 n).wf = true := h
  simpa [Lit.wf, IntKind.min, IntKind.max, IntKind.signed, IntKind.bits] using h
theorem w64 {n : Int} (h0 : -9223372036854775808 ≤ n) (h1 : n ≤ 9223372036854775807) : wrap64 n = n := by unfold wrap64; omega
theorem tdiv_pos {a b : Int} (ha : 0 ≤ a) : Int.tdiv a b = a / b := Int.tdiv_eq_ediv_of_nonneg ha
theorem tmod_pos {a b : Int} (ha : 0 ≤ a) : Int.tmod a b = a % b := Int.tmod_eq_emod_of_nonneg ha
theorem bytesOf_append (a b : List Int) : bytesOf a ++ bytesOf b = bytesOf (a ++ b) := by
  apply ByteArray.ext
  simp [bytesOf]
theorem cond_t {α : Type} {c : Bool} {a b : α} (h : c = true) : (bif c then a else b) = a := by rw [h]; rfl
theorem cond_f {α : Type} {c : Bool} {a b : α} (h : c = false) : (bif c then a else b) = b := by rw [h]; rfl
/-! ### the shape of an array of drives -/
def GG (a0 a1 a2 a3 a4 : Int) : Prop := 3 ≤ a0 ∧ a0 ≤ 16 ∧ 5 ≤ a1 ∧ a1 ≤ 64 ∧ 4 ≤ a2 ∧ a2 ≤ 256 ∧ 1 ≤ a3 ∧ a3 ≤ a4 ∧ a4 ≤ a1
instance (a0 a1 a2 a3 a4 : Int) : Decidable (GG a0 a1 a2 a3 a4) := by unfold GG; infer_instance
theorem within_val (k : Nat) (n l h : Int) : geom_within k n l h = some (decide (l ≤ n ∧ n ≤ h)) := by
  unfold geom_within
  by_cases a : l ≤ n <;> simp [a]
theorem good_val (k : Nat) (a0 a1 a2 a3 a4 : Int) : geom_Good k a0 a1 a2 a3 a4 = some (decide (GG a0 a1 a2 a3 a4)) := by
  unfold geom_Good
  simp only [within_val, optb]
  by_cases h1 : 3 ≤ a0 ∧ a0 ≤ 16 <;> by_cases h2 : 5 ≤ a1 ∧ a1 ≤ 64 <;> by_cases h3 : 4 ≤ a2 ∧ a2 ≤ 256 <;> by_cases h4 : 1 ≤ a3 ∧ a3 ≤ a4 <;> simp only [h1, h2, h3, h4, decide_true, decide_false, cond_true, cond_false, Option.some.injEq, decide_eq_decide, and_self] <;> first | (unfold GG; omega) | (symm; rw [decide_eq_false_iff_not]; unfold GG; omega)
theorem refgood_val (k : Nat) (a0 a1 a2 a3 a4 : Int) : corbelref04_Good k a0 a1 a2 a3 a4 = some (decide (GG a0 a1 a2 a3 a4)) := by
  unfold corbelref04_Good corbelref04_Good_j0 corbelref04_Good_k0 corbelref04_Good_k1
  by_cases h1 : a0 < 3 <;> by_cases h2 : 16 < a0 <;> by_cases h3 : a1 < 5 <;> by_cases h4 : 64 < a1 <;> by_cases h5 : a2 < 4 <;> by_cases h6 : 256 < a2 <;> by_cases h7 : 0 < a3 <;> by_cases h8 : a3 ≤ a4 <;>
    simp only [h1, h2, h3, h4, h5, h6, h7, h8, decide_true, decide_false, cond_true, cond_false, Option.some.injEq, decide_eq_decide] <;> first | (unfold GG; omega) | (symm; rw [decide_eq_false_iff_not]; unfold GG; omega)
section
variable {a0 a1 a2 a3 a4 : Int}
theorem cap_bound (h : GG a0 a1 a2 a3 a4) : 8 ≤ (a0 - 1) * a2 ∧ (a0 - 1) * a2 ≤ 3840 := by
  obtain ⟨h1, h2, _, _, h5, h6, _⟩ := h
  have e1 : 2 * 4 ≤ (a0 - 1) * a2 := Int.mul_le_mul (by omega) h5 (by omega) (by omega)
  have e2 : (a0 - 1) * a2 ≤ 15 * 256 := Int.mul_le_mul (by omega) h6 (by omega) (by omega)
  omega
theorem zones_yes (k : Nat) (h : GG a0 a1 a2 a3 a4) : geom_Zones k a0 a1 a2 a3 a4 = some (a1 - 3) := by
  unfold geom_Zones
  rw [good_val, decide_eq_true h]
  obtain ⟨_, _, h1, h2, _⟩ := h
  show some _ = _
  rw [w64 (n := a1 - 2) (by omega) (by omega), w64 (by omega) (by omega)]
  congr 1; omega
theorem zones_no (k : Nat) (h : ¬ GG a0 a1 a2 a3 a4) : geom_Zones k a0 a1 a2 a3 a4 = some 0 := by
  unfold geom_Zones
  rw [good_val, decide_eq_false h]; rfl
theorem cap_yes (k : Nat) (h : GG a0 a1 a2 a3 a4) : geom_Capacity k a0 a1 a2 a3 a4 = some ((a0 - 1) * a2) := by
  unfold geom_Capacity
  rw [good_val, decide_eq_true h]
  have hb := cap_bound h
  obtain ⟨h1, h2, _⟩ := h
  show some _ = _
  rw [w64 (n := a0 - 1) (by omega) (by omega), w64 (by omega) (by omega)]
theorem cap_no (k : Nat) (h : ¬ GG a0 a1 a2 a3 a4) : geom_Capacity k a0 a1 a2 a3 a4 = some 0 := by
  unfold geom_Capacity
  rw [good_val, decide_eq_false h]; rfl
theorem there_yes (k : Nat) (h : GG a0 a1 a2 a3 a4) (z r : Int) : geom_there k a0 a1 a2 a3 a4 z r = some (decide (0 ≤ z ∧ z < a1 - 3 ∧ 0 ≤ r ∧ r < a2)) := by
  unfold geom_there
  rw [zones_yes k h]
  obtain ⟨h1, h2, h3, h4, h5, h6, _⟩ := h
  simp only [optb, within_val]
  rw [w64 (n := a1 - 3 - 1) (by omega) (by omega), w64 (n := a2 - 1) (by omega) (by omega)]
  by_cases h7 : 0 ≤ z ∧ z ≤ a1 - 3 - 1
  · rw [decide_eq_true h7]
    simp only [cond_true, Option.some.injEq, decide_eq_decide]
    omega
  · rw [decide_eq_false h7, decide_eq_false (show ¬ (0 ≤ z ∧ z < a1 - 3 ∧ 0 ≤ r ∧ r < a2) by omega)]; rfl
theorem there_no (k : Nat) (h : ¬ GG a0 a1 a2 a3 a4) (z r : Int) : geom_there k a0 a1 a2 a3 a4 z r = some false := by
  unfold geom_there
  rw [zones_no k h]
  simp only [optb, within_val]
  have : wrap64 (0 - 1) = -1 := by kernel_rfl
  rw [this, decide_eq_false (by omega)]; rfl
end
/-! ### loops over whole numbers -/
noncomputable def dc (P : Prop) : Bool := @decide P (Classical.propDecidable P)
theorem dc_t {P : Prop} (h : P) : dc P = true := @decide_eq_true P (Classical.propDecidable P) h
theorem dc_f {P : Prop} (h : ¬ P) : dc P = false := @decide_eq_false P (Classical.propDecidable P) h
theorem dc_iff {P : Prop} : dc P = true ↔ P := ⟨fun h => @of_decide_eq_true P (Classical.propDecidable P) h, dc_t⟩
theorem dc_congr {P Q : Prop} (h : P ↔ Q) : dc P = dc Q := by rw [propext h]
theorem dc_dec {P : Prop} [Decidable P] : decide P = dc P := by
  by_cases h : P
  · rw [decide_eq_true h, dc_t h]
  · rw [decide_eq_false h, dc_f h]
theorem dc_and (P Q : Prop) : (dc P && dc Q) = dc (P ∧ Q) := by
  by_cases h : P
  · by_cases h2 : Q
    · rw [dc_t h, dc_t h2, dc_t ⟨h, h2⟩]; rfl
    · rw [dc_f h2, dc_f (fun x : P ∧ Q => h2 x.2), Bool.and_false]
  · rw [dc_f h, dc_f (fun x : P ∧ Q => h x.1)]; rfl
/-- up to the first number without `P` -/
theorem loopUp {R : Type} (f : Nat → Int → Option R) (lo to : Int) (P : Int → Prop) (yes : Option R) (no : Int → Option R)
    (hs : ∀ j i, lo ≤ i → i < to → P i → f (j + 1) i = f j (i + 1)) (hn : ∀ j i, lo ≤ i → i < to → ¬ P i → f (j + 1) i = no i) (he : ∀ j i, lo ≤ i → to ≤ i → f (j + 1) i = yes) :
    ∀ n j i, lo ≤ i → (to - i).toNat = n → n < j → ((∀ q, i ≤ q → q < to → P q) ∧ f j i = yes) ∨ (∃ q, i ≤ q ∧ q < to ∧ ¬ P q ∧ (∀ u, i ≤ u → u < q → P u) ∧ f j i = no q) := by
  intro n
  induction n with
  | zero =>
    intro j i hl h hj
    obtain ⟨j, rfl⟩ : ∃ u, j = u + 1 := ⟨j - 1, by omega⟩
    exact .inl ⟨fun q h1 h2 => absurd h2 (by omega), he j i hl (by omega)⟩
  | succ n ih =>
    intro j i hl h hj
    obtain ⟨j, rfl⟩ : ∃ u, j = u + 1 := ⟨j - 1, by omega⟩
    by_cases hp : P i
    · rw [hs j i hl (by omega) hp]
      rcases ih j (i + 1) (by omega) (by omega) (by omega) with ⟨h1, h2⟩ | ⟨q, h1, h2, h3, h4, h5⟩
      · refine .inl ⟨fun q h3 h4 => ?_, h2⟩
        by_cases e : q = i
        · rw [e]; exact hp
        · exact h1 q (by omega) h4
      · refine .inr ⟨q, by omega, h2, h3, fun u h6 h7 => ?_, h5⟩
        by_cases e : u = i
        · rw [e]; exact hp
        · exact h4 u (by omega) h7
    · exact .inr ⟨i, by omega, by omega, hp, fun u h1 h2 => absurd h2 (by omega), hn j i hl (by omega) hp⟩
/-- the same, for a loop that ends where it should -/
theorem loopTo {R : Type} (f : Nat → Int → Option R) (lo to : Int) (P : Int → Prop) (yes : Option R) (no : Int → Option R)
    (hs : ∀ j i, lo ≤ i → i < to → P i → f (j + 1) i = f j (i + 1)) (hn : ∀ j i, lo ≤ i → i < to → ¬ P i → f (j + 1) i = no i) (he : ∀ j, f (j + 1) to = yes) :
    ∀ n j i, lo ≤ i → i ≤ to → (to - i).toNat = n → n < j → ((∀ q, i ≤ q → q < to → P q) ∧ f j i = yes) ∨ (∃ q, i ≤ q ∧ q < to ∧ ¬ P q ∧ (∀ u, i ≤ u → u < q → P u) ∧ f j i = no q) := by
  intro n
  induction n with
  | zero =>
    intro j i hl hle h hj
    obtain ⟨j, rfl⟩ : ∃ u, j = u + 1 := ⟨j - 1, by omega⟩
    exact .inl ⟨fun q h1 h2 => absurd h2 (by omega), by rw [show i = to by omega]; exact he j⟩
  | succ n ih =>
    intro j i hl hle h hj
    obtain ⟨j, rfl⟩ : ∃ u, j = u + 1 := ⟨j - 1, by omega⟩
    by_cases hp : P i
    · rw [hs j i hl (by omega) hp]
      rcases ih j (i + 1) (by omega) (by omega) (by omega) (by omega) with ⟨h1, h2⟩ | ⟨q, h1, h2, h3, h4, h5⟩
      · refine .inl ⟨fun q h3 h4 => ?_, h2⟩
        by_cases e : q = i
        · rw [e]; exact hp
        · exact h1 q (by omega) h4
      · refine .inr ⟨q, by omega, h2, h3, fun u h6 h7 => ?_, h5⟩
        by_cases e : u = i
        · rw [e]; exact hp
        · exact h4 u (by omega) h7
    · exact .inr ⟨i, by omega, by omega, hp, fun u h1 h2 => absurd h2 (by omega), hn j i hl (by omega) hp⟩
theorem loopAll {R : Type} (f : Nat → Int → Option R) (lo to : Int) (P : Int → Prop) (yes no : Option R)
    (hs : ∀ j i, lo ≤ i → i < to → P i → f (j + 1) i = f j (i + 1)) (hn : ∀ j i, lo ≤ i → i < to → ¬ P i → f (j + 1) i = no) (he : ∀ j i, lo ≤ i → to ≤ i → f (j + 1) i = yes)
    (j : Nat) (i : Int) (hl : lo ≤ i) (hj : (to - i).toNat < j) : f j i = bif dc (∀ q, i ≤ q → q < to → P q) then yes else no := by
  rcases loopUp f lo to P yes (fun _ => no) hs hn he _ j i hl rfl hj with ⟨h1, h2⟩ | ⟨q, h1, h2, h3, _, h5⟩
  · rw [dc_t h1, h2]; rfl
  · rw [dc_f (fun h => h3 (h q h1 h2)), h5]; rfl
/-- the last number below `n` with `P` -/
noncomputable def lastI (P : Int → Prop) : Nat → Int
  | 0 => -1
  | n + 1 => bif dc (P n) then n else lastI P n
theorem lastI_lt (P : Int → Prop) (n : Nat) : -1 ≤ lastI P n ∧ lastI P n < n := by
  induction n with
  | zero => exact ⟨Int.le_refl (-1), by show (-1 : Int) < 0; decide⟩
  | succ n ih =>
    unfold lastI
    cases dc (P n) with
    | true => rw [cond_true]; omega
    | false => rw [cond_false]; omega
theorem lastI_yes (P : Int → Prop) (n : Nat) (h : 0 ≤ lastI P n) : P (lastI P n) := by
  induction n with
  | zero => exact absurd (show (0 : Int) ≤ -1 from h) (by decide)
  | succ n ih =>
    unfold lastI at h ⊢
    by_cases hp : P n
    · rw [dc_t hp]; exact hp
    · rw [dc_f hp] at h ⊢; exact ih h
theorem lastI_no (P : Int → Prop) (n : Nat) : 0 ≤ lastI P n ↔ ∃ q : Nat, q < n ∧ P q := by
  induction n with
  | zero => exact ⟨fun h => absurd (show (0 : Int) ≤ -1 from h) (by decide), fun ⟨q, h, _⟩ => absurd h (by omega)⟩
  | succ n ih =>
    unfold lastI
    by_cases hp : P n
    · rw [dc_t hp]; exact ⟨fun _ => ⟨n, by omega, hp⟩, fun _ => by rw [cond_true]; omega⟩
    · rw [dc_f hp, cond_false, ih]
      refine ⟨fun ⟨q, h1, h2⟩ => ⟨q, by omega, h2⟩, fun ⟨q, h1, h2⟩ => ⟨q, ?_, h2⟩⟩
      by_cases e : q = n
      · rw [e] at h2; exact absurd h2 hp
      · omega
theorem lastI_congr {P Q : Int → Prop} (n : Nat) (h : ∀ q : Nat, q < n → (P q ↔ Q q)) : lastI P n = lastI Q n := by
  induction n with
  | zero => rfl
  | succ n ih => unfold lastI; rw [dc_congr (h n (by omega)), ih (fun q hq => h q (by omega))]
theorem loopDown {R : Type} (f : Nat → Int → Option R) (N : Nat) (P : Int → Prop) (yes : Int → Option R) (no : Option R)
    (hy : ∀ j (i : Nat), i < N → P i → f (j + 1) i = yes i) (hn : ∀ j (i : Nat), i < N → ¬ P i → f (j + 1) i = f j (i - 1)) (he : ∀ j, f (j + 1) (-1) = no) :
    ∀ n j, n ≤ N → n < j → f j (n - 1) = bif decide (0 ≤ lastI P n) then yes (lastI P n) else no := by
  intro n
  induction n with
  | zero =>
    intro j _ hj
    obtain ⟨j, rfl⟩ : ∃ u, j = u + 1 := ⟨j - 1, by omega⟩
    exact he j
  | succ n ih =>
    intro j hN hj
    obtain ⟨j, rfl⟩ : ∃ u, j = u + 1 := ⟨j - 1, by omega⟩
    rw [show ((n + 1 : Nat) : Int) - 1 = (n : Int) by omega]
    unfold lastI
    by_cases hp : P n
    · rw [hy j n (by omega) hp, dc_t hp, cond_true, decide_eq_true (by omega)]; rfl
    · rw [hn j n (by omega) hp, dc_f hp, cond_false]; exact ih j (by omega) (by omega)
/-- a state that is carried along -/
def foldI {S : Type} (g : Int → S → S) : Nat → Int → S → S
  | 0, _, s => s
  | n + 1, i, s => foldI g n (i + 1) (g i s)
theorem loopFold {R S : Type} (f : Nat → S → Int → Option R) (lo to : Int) (g : Int → S → S) (e : S → Option R)
    (hs : ∀ j s i, lo ≤ i → i < to → f (j + 1) s i = f j (g i s) (i + 1)) (he : ∀ j s i, lo ≤ i → to ≤ i → f (j + 1) s i = e s) :
    ∀ n j s i, lo ≤ i → (to - i).toNat = n → n < j → f j s i = e (foldI g n i s) := by
  intro n
  induction n with
  | zero =>
    intro j s i hl h hj
    obtain ⟨j, rfl⟩ : ∃ u, j = u + 1 := ⟨j - 1, by omega⟩
    exact he j s i hl (by omega)
  | succ n ih =>
    intro j s i hl h hj
    obtain ⟨j, rfl⟩ : ∃ u, j = u + 1 := ⟨j - 1, by omega⟩
    rw [hs j s i hl (by omega), ih j _ _ (by omega) (by omega) (by omega)]; rfl
theorem foldI_and (P : Int → Prop) : ∀ n i a, foldI (fun i a => a && dc (P i)) n i a = (a && dc (∀ q, i ≤ q → q < i + (n : Nat) → P q)) := by
  intro n
  induction n with
  | zero => intro i a; rw [dc_t (fun q h1 h2 => absurd h2 (by omega)), Bool.and_true]; rfl
  | succ n ih =>
    intro i a
    show foldI _ n (i + 1) (a && dc (P i)) = _
    rw [ih, Bool.and_assoc, dc_and]
    congr 1
    refine dc_congr ⟨fun ⟨h, h'⟩ q h1 h2 => ?_, fun h => ⟨h i (by omega) (by omega), fun q h1 h2 => h q (by omega) (by omega)⟩⟩
    by_cases e : q = i
    · rw [e]; exact h
    · exact h' q (by omega) (by omega)
theorem foldI_snoc {S : Type} (g : Int → S → S) : ∀ n i s, foldI g (n + 1) i s = g (i + (n : Nat)) (foldI g n i s) := by
  intro n
  induction n with
  | zero => intro i s; show g i s = g (i + 0) s; rw [Int.add_zero]
  | succ n ih =>
    intro i s
    show foldI g (n + 1) (i + 1) (g i s) = _
    rw [ih]
    show g (i + 1 + (n : Nat)) _ = g (i + ((n + 1 : Nat) : Int)) (foldI g n (i + 1) (g i s))
    congr 1; omega
theorem foldI_last (P : Int → Prop) (n : Nat) : foldI (fun i a => bif dc (P i) then i else a) n 0 (-1) = lastI P n := by
  induction n with
  | zero => rfl
  | succ n ih => rw [foldI_snoc, ih]; show _ = (bif dc (P n) then (n : Int) else lastI P n); rw [Int.zero_add]
/-! ### reading a list -/
def lat (L : List Int) (q : Int) : Int := L.getD q.toNat 0
theorem lat_some {L : List Int} {q : Int} (h0 : 0 ≤ q) (h1 : q < L.length) : L[q.toNat]? = some (lat L q) := by
  have h : q.toNat < L.length := by omega
  unfold lat
  rw [List.getD_eq_getElem?_getD, List.getElem?_eq_getElem h]; rfl
theorem lat_wf {L : List Int} {b : Bool} (h : Ty.wf (.sl (.int .i64)) (b, L)) (q : Int) (h0 : 0 ≤ q) (h1 : q < L.length) : -9223372036854775808 ≤ lat L q ∧ lat L q ≤ 9223372036854775807 := by
  have hm : lat L q ∈ L := by
    have h : q.toNat < L.length := by omega
    unfold lat
    rw [List.getD_eq_getElem?_getD, List.getElem?_eq_getElem h]; exact List.getElem_mem h
  exact wf_i64 (h.2.2 _ hm)
/-! ### where a block lies -/
def sl (d z r p : Int) : Int := ((z + r) % d + 1 + p) % d
theorem sl_lt {d : Int} (hd : 0 < d) (z r p : Int) : 0 ≤ sl d z r p ∧ sl d z r p < d := ⟨Int.emod_nonneg _ (by omega), Int.emod_lt_of_pos _ hd⟩
section
variable {a0 a1 a2 a3 a4 : Int}
theorem par_yes (k : Nat) (h : GG a0 a1 a2 a3 a4) {z r : Int} (t : 0 ≤ z ∧ z < a1 - 3 ∧ 0 ≤ r ∧ r < a2) : geom_Parity k a0 a1 a2 a3 a4 z r = some ((z + r) % a0) := by
  unfold geom_Parity
  rw [there_yes k h, decide_eq_true t]
  obtain ⟨h1, h2, h3, h4, h5, h6, _⟩ := h
  simp only [optb, Bool.not_true, cond_false]
  rw [decide_eq_false (show ¬ a0 = 0 by omega), cond_false, w64 (by omega) (by omega), tmod_pos (by omega)]
theorem block_row {d b rows : Int} (hd : 3 ≤ d) (hb : 0 ≤ b) (hc : b < (d - 1) * rows) : 0 ≤ b / (d - 1) ∧ b / (d - 1) < rows ∧ 0 ≤ b % (d - 1) ∧ b % (d - 1) < d - 1 := by
  refine ⟨Int.ediv_nonneg hb (by omega), Int.ediv_lt_of_lt_mul (by omega) ?_, Int.emod_nonneg _ (by omega), Int.emod_lt_of_pos _ (by omega)⟩
  rw [Int.mul_comm]; exact hc
theorem slot_par (k : Nat) (h : GG a0 a1 a2 a3 a4) {z r : Int} (t : 0 ≤ z ∧ z < a1 - 3 ∧ 0 ≤ r ∧ r < a2) {p : Int} (p0 : -1 ≤ p) (p1 : p < 1000) : Int.tmod (wrap64 (wrap64 ((z + r) % a0 + 1) + p)) a0 = sl a0 z r p := by
  obtain ⟨h1, h2, h3, h4, h5, h6, _⟩ := h
  have e0 := Int.emod_nonneg (z + r) (show a0 ≠ 0 by omega)
  have e1 := Int.emod_lt_of_pos (z + r) (show 0 < a0 by omega)
  rw [w64 (n := (z + r) % a0 + 1) (by omega) (by omega), w64 (by omega) (by omega), tmod_pos (by omega)]; rfl
end
/-! ### spots and lengths -/
theorem div_step {n c : Int} (hc : 0 < c) (h0 : 0 ≤ n) : (n % c + 1 < c ∧ (n + 1) / c = n / c ∧ (n + 1) % c = n % c + 1) ∨ (n % c + 1 = c ∧ (n + 1) / c = n / c + 1 ∧ (n + 1) % c = 0) := by
  have h1 := Int.emod_add_mul_ediv n c
  have h2 := Int.emod_nonneg n (show c ≠ 0 by omega)
  have h3 := Int.emod_lt_of_pos n hc
  rcases Int.lt_or_le (n % c + 1) c with hlt | hge
  · refine .inl ⟨hlt, ?_, ?_⟩
    · have e : n + 1 = (n % c + 1) + (n / c) * c := by rw [Int.mul_comm (n / c)]; omega
      rw [e, Int.add_mul_ediv_right _ _ (by omega), Int.ediv_eq_zero_of_lt (by omega) hlt]; omega
    · have e : n + 1 = (n % c + 1) + c * (n / c) := by omega
      conv => lhs; rw [e]
      rw [Int.add_mul_emod_self_left]; exact Int.emod_eq_of_lt (by omega) hlt
  · refine .inr ⟨by omega, ?_, ?_⟩
    · have e : n + 1 = 0 + (n / c + 1) * c := by rw [Int.add_mul, Int.one_mul, Int.mul_comm (n / c)]; omega
      rw [e, Int.add_mul_ediv_right _ _ (by omega)]; simp
    · have e : n + 1 = 0 + c * (n / c + 1) := by rw [Int.mul_add, Int.mul_one]; omega
      rw [e, Int.add_mul_emod_self_left]; simp

abbrev slotOf (d zone row k : Int) : Int := sl d zone row k
/-! ### what lies at a spot -/
def kOf (d p drive : Int) : Int := if p < drive then drive - p - 1 else drive - p - 1 + d
def sOf (d p k : Int) : Int := if p + 1 + k < d then p + 1 + k else p + 1 + k - d
theorem kOf_mod {d p drive : Int} (h0 : 0 ≤ p) (h1 : p < d) (h2 : 0 ≤ drive) (h3 : drive < d) (h4 : drive ≠ p) : (drive - p - 1 + d) % d = kOf d p drive := by
  unfold kOf
  split
  · rw [Int.add_emod_right]; exact Int.emod_eq_of_lt (by omega) (by omega)
  · exact Int.emod_eq_of_lt (by omega) (by omega)
theorem kOf_range {d p drive : Int} (h0 : 0 ≤ p) (h1 : p < d) (h2 : 0 ≤ drive) (h3 : drive < d) (h4 : drive ≠ p) : 0 ≤ kOf d p drive ∧ kOf d p drive ≤ d - 2 := by
  unfold kOf; split <;> omega
theorem sOf_mod {d p k : Int} (h0 : 0 ≤ p) (h1 : p < d) (h2 : 0 ≤ k) (h3 : k ≤ d - 2) : (p + 1 + k) % d = sOf d p k := by
  unfold sOf
  split
  · exact Int.emod_eq_of_lt (by omega) (by omega)
  · rw [show p + 1 + k = (p + 1 + k - d) + d by omega, Int.add_emod_right, show p + 1 + k - d + d - d = p + 1 + k - d by omega]; exact Int.emod_eq_of_lt (by omega) (by omega)
theorem sOf_range {d p k : Int} (h0 : 0 ≤ p) (h1 : p < d) (h2 : 0 ≤ k) (h3 : k ≤ d - 2) : 0 ≤ sOf d p k ∧ sOf d p k < d ∧ sOf d p k ≠ p := by
  unfold sOf; split <;> omega
theorem sOf_kOf {d p drive : Int} (h0 : 0 ≤ p) (h1 : p < d) (h2 : 0 ≤ drive) (h3 : drive < d) (h4 : drive ≠ p) : sOf d p (kOf d p drive) = drive := by
  unfold sOf kOf; split <;> split <;> omega
theorem kOf_sOf {d p k : Int} (h0 : 0 ≤ p) (h1 : p < d) (h2 : 0 ≤ k) (h3 : k ≤ d - 2) : kOf d p (sOf d p k) = k := by
  unfold sOf kOf; split <;> split <;> omega
theorem par_range (d zone row : Int) (hd : 3 ≤ d) : 0 ≤ (zone + row) % d ∧ (zone + row) % d < d := ⟨Int.emod_nonneg _ (by omega), Int.emod_lt_of_pos _ (by omega)⟩

theorem slotOf_eq {d zone row k : Int} (hd : 3 ≤ d) (h2 : 0 ≤ k) (h3 : k ≤ d - 2) : slotOf d zone row k = sOf d ((zone + row) % d) k :=
  sOf_mod (par_range d zone row hd).1 (par_range d zone row hd).2 h2 h3

theorem mul_row {d b row : Int} (hd : 3 ≤ d) (h0 : 0 ≤ row) (h1 : row ≤ b - 1) : 0 ≤ row * (d - 1) ∧ row * (d - 1) ≤ (d - 1) * b - (d - 1) := by
  refine ⟨Int.mul_nonneg h0 (by omega), ?_⟩
  have := Int.mul_le_mul_of_nonneg_right h1 (show 0 ≤ d - 1 by omega)
  rw [Int.sub_mul, Int.one_mul, Int.mul_comm b] at this
  exact this
theorem row_div {d row k : Int} (hd : 3 ≤ d) (h2 : 0 ≤ k) (h3 : k ≤ d - 2) : (row * (d - 1) + k) / (d - 1) = row ∧ (row * (d - 1) + k) % (d - 1) = k := by
  constructor
  · rw [Int.add_comm, Int.add_mul_ediv_right _ _ (by omega), Int.ediv_eq_zero_of_lt h2 (by omega)]; omega
  · rw [Int.add_comm, Int.add_mul_emod_self_right]; exact Int.emod_eq_of_lt h2 (by omega)

/-! ### how many blocks a slot has of a zone -/
def lenV (d zone n s : Int) : Int := n / (d - 1) + (if s ≠ (zone + n / (d - 1)) % d ∧ kOf d ((zone + n / (d - 1)) % d) s < n % (d - 1) then 1 else 0)
theorem lenV_step {d zone n s : Int} (hd : 3 ≤ d) (hn : 0 ≤ n) (h0 : 0 ≤ s) (h1 : s < d) :
    lenV d zone (n + 1) s = lenV d zone n s + (if s = slotOf d zone (n / (d - 1)) (n % (d - 1)) then 1 else 0) + (if n % (d - 1) = d - 2 ∧ s = (zone + n / (d - 1)) % d then 1 else 0) := by
  have hp := par_range d zone (n / (d - 1)) hd
  have hm0 := Int.emod_nonneg n (show d - 1 ≠ 0 by omega)
  have hm1 := Int.emod_lt_of_pos n (show 0 < d - 1 by omega)
  have hs : slotOf d zone (n / (d - 1)) (n % (d - 1)) = sOf d ((zone + n / (d - 1)) % d) (n % (d - 1)) := slotOf_eq hd hm0 (by omega)
  have hsr := sOf_range hp.1 hp.2 hm0 (show n % (d - 1) ≤ d - 2 by omega)
  rw [hs]
  unfold lenV
  generalize hpp : (zone + n / (d - 1)) % d = p at hp hsr ⊢
  generalize hr : n % (d - 1) = r at hm0 hm1 hsr ⊢
  have hk : s ≠ p → (s = sOf d p r ↔ kOf d p s = r) := by
    intro hne
    constructor
    · rintro rfl; exact kOf_sOf hp.1 hp.2 hm0 (by omega)
    · rintro h; rw [← h]; exact (sOf_kOf hp.1 hp.2 h0 h1 hne).symm
  rcases div_step (n := n) (c := d - 1) (by omega) hn with ⟨e1, e2, e3⟩ | ⟨e1, e2, e3⟩
  · rw [e2, e3, hpp, hr]
    rw [hr] at e1
    by_cases hsp : s = p
    · subst hsp
      rw [if_neg (by omega), if_neg (by omega), if_neg (by omega), if_neg (by omega)]; omega
    · have hk2 := hk hsp
      by_cases hkr : kOf d p s < r
      · rw [if_pos ⟨hsp, by omega⟩, if_pos ⟨hsp, hkr⟩, if_neg (by omega), if_neg (by omega)]; omega
      · by_cases hke : kOf d p s = r
        · rw [if_pos ⟨hsp, by omega⟩, if_neg (by omega), if_pos (hk2.2 hke), if_neg (by omega)]; omega
        · rw [if_neg (by omega), if_neg (by omega), if_neg (fun h => hke (hk2.1 h)), if_neg (by omega)]; simp
  · rw [e2, e3]
    rw [hr] at e1
    have hnn : ¬ (s ≠ (zone + (n / (d - 1) + 1)) % d ∧ kOf d ((zone + (n / (d - 1) + 1)) % d) s < 0) := by
      rintro ⟨h2, h3⟩
      have hp' := par_range d zone (n / (d - 1) + 1) hd
      have := kOf_range hp'.1 hp'.2 h0 h1 h2
      omega
    rw [if_neg hnn]
    by_cases hsp : s = p
    · subst hsp
      rw [if_neg (by omega), if_neg (by omega), if_pos ⟨by omega, rfl⟩]; omega
    · have hk2 := hk hsp
      have hkr := kOf_range hp.1 hp.2 h0 h1 hsp
      by_cases hke : kOf d p s = r
      · rw [if_neg (by omega), if_pos (hk2.2 hke), if_neg (by omega)]; omega
      · rw [if_pos ⟨hsp, by omega⟩, if_neg (fun h => hke (hk2.1 h)), if_neg (by omega)]; omega
theorem lenV_zero {d zone s : Int} (hd : 3 ≤ d) (h0 : 0 ≤ s) (h1 : s < d) : lenV d zone 0 s = 0 := by
  unfold lenV
  have hp := par_range d zone (0 / (d - 1)) hd
  rw [if_neg]
  · simp
  · rintro ⟨h2, h3⟩
    have := kOf_range hp.1 hp.2 h0 h1 h2
    simp at h3
    simp at this
    omega
/-- What Lengths tells: one number a slot. -/
def lensL (d zone n : Int) : List Int := (List.range d.toNat).map fun s : Nat => lenV d zone n (s : Int)
theorem lensL_length {d : Int} (hd : 0 ≤ d) (zone n : Int) : ((lensL d zone n).length : Int) = d := by simp [lensL]; omega
theorem lensL_at {d zone n s : Int} (h0 : 0 ≤ s) (h1 : s < d) : lat (lensL d zone n) s = lenV d zone n s := by
  unfold lat lensL
  rw [List.getD_eq_getElem?_getD, List.getElem?_map, List.getElem?_range (by omega)]
  simp [show ((s.toNat : Nat) : Int) = s by omega]
theorem lat_ext {L M : List Int} (hl : L.length = M.length) (h : ∀ q : Int, 0 ≤ q → q < L.length → lat L q = lat M q) : L = M := by
  apply List.ext_getElem hl
  intro i h1 h2
  have := h i (by omega) (by omega)
  unfold lat at this
  rw [Int.toNat_natCast, List.getD_eq_getElem?_getD, List.getD_eq_getElem?_getD, List.getElem?_eq_getElem h1, List.getElem?_eq_getElem h2] at this
  exact this
theorem lat_set {L : List Int} {i : Int} (h0 : 0 ≤ i) (hi : i < L.length) (v : Int) {q : Int} (hq : 0 ≤ q) : lat (L.set i.toNat v) q = if q = i then v else lat L q := by
  unfold lat
  rw [List.getD_eq_getElem?_getD, List.getD_eq_getElem?_getD, List.getElem?_set]
  by_cases e : q = i
  · rw [if_pos e, if_pos (by omega), if_pos (by omega)]; rfl
  · rw [if_neg e, if_neg (by omega)]
theorem lat_rep (n : Nat) (q : Int) : lat (List.replicate n 0) q = 0 := by
  unfold lat
  rw [List.getD_eq_getElem?_getD, List.getElem?_replicate]
  split <;> rfl
theorem lenV_bounds {a0 a1 a2 a3 a4 : Int} (h : GG a0 a1 a2 a3 a4) {zone n s : Int} (hn0 : 0 ≤ n) (hn1 : n ≤ (a0 - 1) * a2) (h0 : 0 ≤ s) (h1 : s < a0) :
    0 ≤ n / (a0 - 1) ∧ n / (a0 - 1) ≤ lenV a0 zone n s ∧ lenV a0 zone n s ≤ n / (a0 - 1) + 1 ∧ lenV a0 zone n s ≤ a2 ∧ n / (a0 - 1) ≤ a2 := by
  have hg : 3 ≤ a0 ∧ a2 ≤ 256 := ⟨h.1, h.2.2.2.2.2.1⟩
  have hp := par_range a0 zone (n / (a0 - 1)) hg.1
  have hq0 := Int.ediv_nonneg hn0 (show 0 ≤ a0 - 1 by omega)
  have hb : n / (a0 - 1) ≤ a2 := by
    have := Int.ediv_le_ediv (show 0 < a0 - 1 by omega) hn1
    rwa [Int.mul_ediv_cancel_left _ (by omega)] at this
  have hm0 := Int.emod_nonneg n (show a0 - 1 ≠ 0 by omega)
  have hdm := Int.emod_add_mul_ediv n (a0 - 1)
  unfold lenV
  by_cases hc : s ≠ (zone + n / (a0 - 1)) % a0 ∧ kOf a0 ((zone + n / (a0 - 1)) % a0) s < n % (a0 - 1)
  · rw [if_pos hc]
    have hk := kOf_range hp.1 hp.2 h0 h1 hc.1
    have : n / (a0 - 1) ≠ a2 := by
      intro e
      rw [e] at hdm
      omega
    omega
  · rw [if_neg hc]; omega
/-! ### what a spot holds, and what Lengths says -/
section
variable {a0 a1 a2 a3 a4 : Int}
theorem par_out (k : Nat) {z r : Int} (t : ¬ (GG a0 a1 a2 a3 a4 ∧ 0 ≤ z ∧ z < a1 - 3 ∧ 0 ≤ r ∧ r < a2)) : geom_Parity k a0 a1 a2 a3 a4 z r = some (-1) := by
  unfold geom_Parity
  by_cases g : GG a0 a1 a2 a3 a4
  · rw [there_yes k g, decide_eq_false (fun x => t ⟨g, x⟩)]; rfl
  · rw [there_no k g]; rfl
theorem back_in (k : Nat) (g : GG a0 a1 a2 a3 a4) {z r s : Int} (t : 0 ≤ z ∧ z < a1 - 3 ∧ 0 ≤ r ∧ r < a2) (s0 : 0 ≤ s) (s1 : s < a0) (h : s ≠ (z + r) % a0) :
    geom_Back k a0 a1 a2 a3 a4 z r s = some (r * (a0 - 1) + kOf a0 ((z + r) % a0) s, true) := by
  have g' := g
  obtain ⟨h1, h2, h3, h4, h5, h6, _⟩ := g'
  have hp := par_range a0 z r h1
  have hk := kOf_range hp.1 hp.2 s0 s1 h
  have hm := mul_row (d := a0) (b := a2) (row := r) h1 t.2.2.1 (by omega)
  have hc := cap_bound g
  unfold geom_Back
  rw [par_yes k g t]
  simp only [optb]
  rw [decide_eq_false (show ¬ (z + r) % a0 < 0 by omega), cond_false, decide_eq_false (show ¬ (z + r) % a0 = s from fun x => h x.symm), cond_false, within_val]
  simp only [optb]
  rw [w64 (n := a0 - 1) (by omega) (by omega), decide_eq_true (show 0 ≤ s ∧ s ≤ a0 - 1 by omega)]
  simp only [Bool.not_true, geom_Back_j0, geom_Back_k1, geom_Back_j1, cond_false]
  rw [decide_eq_false (show ¬ a0 = 0 by omega), cond_false, w64 (n := a0 - 1) (by omega) (by omega), w64 (n := s - (z + r) % a0) (by omega) (by omega), w64 (n := s - (z + r) % a0 - 1) (by omega) (by omega), w64 (n := s - (z + r) % a0 - 1 + a0) (by omega) (by omega), tmod_pos (by omega), kOf_mod hp.1 hp.2 s0 s1 h, w64 (n := r * (a0 - 1)) (by omega) (by omega), w64 (by omega) (by omega)]
theorem back_par (k : Nat) (g : GG a0 a1 a2 a3 a4) {z r : Int} (t : 0 ≤ z ∧ z < a1 - 3 ∧ 0 ≤ r ∧ r < a2) : geom_Back k a0 a1 a2 a3 a4 z r ((z + r) % a0) = some (0, false) := by
  have hp := par_range a0 z r g.1
  unfold geom_Back
  rw [par_yes k g t]
  simp only [optb, decide_true, cond_true]
  rw [decide_eq_false (show ¬ (z + r) % a0 < 0 by omega)]; rfl
theorem back_out (k : Nat) {z r : Int} (t : ¬ (GG a0 a1 a2 a3 a4 ∧ 0 ≤ z ∧ z < a1 - 3 ∧ 0 ≤ r ∧ r < a2)) (s : Int) : geom_Back k a0 a1 a2 a3 a4 z r s = some (0, false) := by
  unfold geom_Back
  rw [par_out k t]; rfl
theorem back_lt (k : Nat) (g : GG a0 a1 a2 a3 a4) {z n s : Int} (z0 : 0 ≤ z) (z1 : z < a1 - 3) (n0 : 0 ≤ n) (n1 : n ≤ (a0 - 1) * a2) (s0 : 0 ≤ s) (s1 : s < a0) :
    ∃ x, geom_Back k a0 a1 a2 a3 a4 z (n / (a0 - 1)) s = some x ∧ (lenV a0 z n s = if x.2 = true ∧ x.1 < n then n / (a0 - 1) + 1 else n / (a0 - 1)) := by
  have h1 := g.1
  have hp := par_range a0 z (n / (a0 - 1)) (by omega)
  have hm0 := Int.emod_nonneg n (show a0 - 1 ≠ 0 by omega)
  have hdm := Int.emod_add_mul_ediv n (a0 - 1)
  have hb := (lenV_bounds g (zone := z) n0 n1 s0 s1)
  rw [Int.mul_comm] at hdm
  unfold lenV
  by_cases hr : n / (a0 - 1) < a2
  · have t : 0 ≤ z ∧ z < a1 - 3 ∧ 0 ≤ n / (a0 - 1) ∧ n / (a0 - 1) < a2 := ⟨z0, z1, hb.1, hr⟩
    by_cases hs : s = (z + n / (a0 - 1)) % a0
    · refine ⟨_, by rw [hs]; exact back_par k g t, ?_⟩
      rw [if_neg (by omega), if_neg (by simp)]; omega
    · refine ⟨_, back_in k g t s0 s1 hs, ?_⟩
      by_cases hk : kOf a0 ((z + n / (a0 - 1)) % a0) s < n % (a0 - 1)
      · rw [if_pos ⟨hs, hk⟩, if_pos ⟨rfl, by simp only; omega⟩]
      · rw [if_neg (by omega), if_neg (by simp only; omega)]; omega
  · refine ⟨_, back_out k (fun x => hr x.2.2.2.2) s, ?_⟩
    have hm : n % (a0 - 1) = 0 := by
      have e : n / (a0 - 1) = a2 := by omega
      rw [e, Int.mul_comm] at hdm
      omega
    have hno : ¬ (s ≠ (z + n / (a0 - 1)) % a0 ∧ kOf a0 ((z + n / (a0 - 1)) % a0) s < n % (a0 - 1)) := by
      rintro ⟨h2, h3⟩
      have := kOf_range hp.1 hp.2 s0 s1 h2
      omega
    rw [if_neg hno, if_neg (by simp)]; omega
theorem lengths_loop {R : Type} (e0 : List Int → Option R) (k : Nat) (g : GG a0 a1 a2 a3 a4) {z n : Int} (z0 : 0 ≤ z) (z1 : z < a1 - 3) (n0 : 0 ≤ n) (n1 : n ≤ (a0 - 1) * a2) : ∀ (m j : Nat) (i : Int) (out : List Int), 0 ≤ i → i ≤ a0 → (a0 - i).toNat = m → m < j → (out.length : Int) = a0 → (∀ q, 0 ≤ q → q < i → lat out q = lenV a0 z n q) →
    plan_Lengths_l1 e0 k z n (n / (a0 - 1)) a0 a0 a1 a2 a3 a4 j i out = e0 (lensL a0 z n) := by
  have hd := g.2.1
  intro m
  induction m with
  | zero =>
    intro j i out i0 i1 hm hj hl hq
    obtain ⟨j, rfl⟩ : ∃ u, j = u + 1 := ⟨j - 1, by omega⟩
    rw [plan_Lengths_l1]; unfold plan_Lengths_l1s
    rw [decide_eq_false (by omega), cond_false]
    congr 1
    have h2 := lensL_length (d := a0) (by omega) z n
    refine lat_ext (by omega) (fun q q0 q1 => ?_)
    rw [lensL_at q0 (by omega)]; exact hq q q0 (by omega)
  | succ m ih =>
    intro j i out i0 i1 hm hj hl hq
    obtain ⟨j, rfl⟩ : ∃ u, j = u + 1 := ⟨j - 1, by omega⟩
    obtain ⟨x, hx, hv⟩ := back_lt k g z0 z1 n0 n1 i0 (show i < a0 by omega)
    have hb := lenV_bounds g (zone := z) n0 n1 i0 (show i < a0 by omega)
    have h6 := g.2.2.2.2.2.1
    rw [plan_Lengths_l1]; unfold plan_Lengths_l1s plan_Lengths_j2 plan_Lengths_k2 plan_Lengths_j3
    rw [decide_eq_true (show i < a0 by omega), cond_true, lenI_eq, decide_eq_true i0, decide_eq_true (show i < (out.length : Int) by omega), lat_some i0 (by omega)]
    simp only [Bool.and_self, cond_true, optb]
    rw [hx]
    simp only [lenI_eq]
    have hls : ((out.set i.toNat (n / (a0 - 1))).length : Int) = a0 := by rw [List.length_set]; exact hl
    have hw : wrap64 (i + 1) = i + 1 := w64 (by omega) (by omega)
    by_cases hc : x.2 = true ∧ x.1 < n
    · rw [if_pos hc] at hv
      rw [hc.1, decide_eq_true hc.2, cond_true, cond_true, decide_eq_true (show i < ((out.set i.toNat (n / (a0 - 1))).length : Int) by omega), lat_some i0 (by omega)]
      simp only [Bool.and_self, cond_true]
      have e1 : lat (out.set i.toNat (n / (a0 - 1))) i = n / (a0 - 1) := by rw [lat_set i0 (by omega) _ i0, if_pos rfl]
      rw [e1, hw, w64 (n := n / (a0 - 1) + 1) (by omega) (by omega)]
      refine ih j (i + 1) _ (by omega) (by omega) (by omega) (by omega) (by rw [List.length_set]; exact hls) (fun q q0 q1 => ?_)
      rw [lat_set i0 (by omega) _ q0]
      by_cases e : q = i
      · rw [if_pos e, e, hv]
      · rw [if_neg e, lat_set i0 (by omega) _ q0, if_neg e]; exact hq q q0 (by omega)
    · rw [if_neg hc] at hv
      have hgo : plan_Lengths_l1 e0 k z n (n / (a0 - 1)) a0 a0 a1 a2 a3 a4 j (i + 1) (out.set i.toNat (n / (a0 - 1))) = e0 (lensL a0 z n) := by
        refine ih j (i + 1) _ (by omega) (by omega) (by omega) (by omega) hls (fun q q0 q1 => ?_)
        rw [lat_set i0 (by omega) _ q0]
        by_cases e : q = i
        · rw [if_pos e, e, hv]
        · rw [if_neg e]; exact hq q q0 (by omega)
      cases h2 : x.2 with
      | true => rw [decide_eq_false (fun y => hc ⟨h2, y⟩), cond_true, cond_false, hw]; exact hgo
      | false => rw [cond_false, cond_false, hw]; exact hgo
def InZN (a0 a1 a2 z n : Int) : Prop := 0 ≤ z ∧ z < a1 - 3 ∧ 0 ≤ n ∧ n ≤ (a0 - 1) * a2
theorem lengths_in (k : Nat) (hk : 100 ≤ k) (g : GG a0 a1 a2 a3 a4) {z n : Int} (h : InZN a0 a1 a2 z n) : plan_Lengths k a0 a1 a2 a3 a4 z n = some (false, lensL a0 z n) := by
  obtain ⟨z0, z1, n0, n1⟩ := h
  have hd := g.1
  have hd' := g.2.1
  have hc := cap_bound g
  unfold plan_Lengths
  rw [good_val, decide_eq_true g, zones_yes k g, cap_yes k g]
  simp only [optb, Bool.not_true, cond_false]
  rw [decide_eq_false (show ¬ z < 0 by omega), cond_false, decide_eq_false (show ¬ a1 - 3 ≤ z by omega), cond_false, decide_eq_false (show ¬ n < 0 by omega), cond_false, decide_eq_false (show ¬ (a0 - 1) * a2 < n by omega)]
  simp only [plan_Lengths_j0, plan_Lengths_k1, cond_false]
  have hr := lenV_bounds g (zone := z) n0 n1 (Int.le_refl 0) (show 0 < a0 by omega)
  have h6 := g.2.2.2.2.2.1
  rw [decide_eq_true (show 0 ≤ a0 by omega), decide_eq_true (Int.le_refl a0), decide_eq_true (show a0 ≤ 1099511627776 by omega), w64 (n := a0 - 1) (by omega) (by omega), decide_eq_false (show ¬ a0 - 1 = 0 by omega), tdiv_pos n0, w64 (n := n / (a0 - 1)) (by omega) (by omega), lenI_eq, List.length_replicate, show ((a0.toNat : Nat) : Int) = a0 by omega]
  simp only [Bool.and_self, cond_true, cond_false]
  exact lengths_loop _ k g z0 z1 n0 n1 _ k 0 _ (Int.le_refl 0) (by omega) rfl (by omega) (by rw [List.length_replicate]; omega) (fun q q0 q1 => absurd q1 (by omega))
theorem lengths_out (k : Nat) {z n : Int} (h : ¬ (GG a0 a1 a2 a3 a4 ∧ InZN a0 a1 a2 z n)) : plan_Lengths k a0 a1 a2 a3 a4 z n = some (true, []) := by
  unfold plan_Lengths
  rw [good_val]
  by_cases g : GG a0 a1 a2 a3 a4
  · rw [decide_eq_true g, zones_yes k g, cap_yes k g]
    simp only [optb, Bool.not_true, cond_false]
    by_cases h1 : z < 0
    · rw [decide_eq_true h1]; rfl
    rw [decide_eq_false h1, cond_false]
    by_cases h2 : a1 - 3 ≤ z
    · rw [decide_eq_true h2]; rfl
    rw [decide_eq_false h2, cond_false]
    by_cases h3 : n < 0
    · rw [decide_eq_true h3]; rfl
    rw [decide_eq_false h3, cond_false, decide_eq_true (show (a0 - 1) * a2 < n by have : ¬ InZN a0 a1 a2 z n := fun x => h ⟨g, x⟩; unfold InZN at this; omega)]; rfl
  · rw [decide_eq_false g]; rfl
end
section
variable {a0 a1 a2 a3 a4 : Int}
theorem place_yes (k : Nat) (h : GG a0 a1 a2 a3 a4) {z b : Int} (z0 : 0 ≤ z) (z1 : z < a1 - 3) (b0 : 0 ≤ b) (b1 : b < (a0 - 1) * a2) :
    geom_Place k a0 a1 a2 a3 a4 z b = some (b / (a0 - 1), sl a0 z (b / (a0 - 1)) (b % (a0 - 1)), true) := by
  unfold geom_Place
  have hc := cap_bound h
  have hr := block_row (rows := a2) (by obtain ⟨h1, _⟩ := h; omega) b0 b1
  have h' := h
  obtain ⟨h1, h2, h3, h4, h5, h6, _⟩ := h'
  rw [there_yes k h, decide_eq_true (show 0 ≤ z ∧ z < a1 - 3 ∧ 0 ≤ (0 : Int) ∧ 0 < a2 by omega), cap_yes k h]
  simp only [optb, Bool.not_true, cond_false, within_val]
  rw [w64 (n := (a0 - 1) * a2 - 1) (by omega) (by omega), decide_eq_true (show 0 ≤ b ∧ b ≤ (a0 - 1) * a2 - 1 by omega)]
  simp only [Bool.not_true, geom_Place_j0, geom_Place_k1, geom_Place_j1, cond_false, optb]
  have hq : b / (a0 - 1) ≤ 300 := by omega
  rw [w64 (n := a0 - 1) (by omega) (by omega), decide_eq_false (show ¬ a0 - 1 = 0 by omega)]
  simp only [cond_false]
  rw [tdiv_pos b0, tmod_pos b0, w64 (n := b / (a0 - 1)) (by omega) (by omega), par_yes k h ⟨z0, z1, hr.1, hr.2.1⟩]
  simp only [optb]
  rw [decide_eq_false (show ¬ a0 = 0 by omega), cond_false, slot_par k h ⟨z0, z1, hr.1, hr.2.1⟩ (by omega) (by omega)]
theorem place_no (k : Nat) {z b : Int} (h : ¬ (GG a0 a1 a2 a3 a4 ∧ 0 ≤ z ∧ z < a1 - 3 ∧ 0 ≤ b ∧ b < (a0 - 1) * a2)) :
    geom_Place k a0 a1 a2 a3 a4 z b = some (0, 0, false) := by
  unfold geom_Place
  by_cases g : GG a0 a1 a2 a3 a4
  · have hc := cap_bound g
    have g' := g
    obtain ⟨h1, h2, h3, h4, h5, h6, _⟩ := g'
    rw [there_yes k g, cap_yes k g]
    simp only [optb, within_val]
    rw [w64 (n := (a0 - 1) * a2 - 1) (by omega) (by omega)]
    by_cases t : 0 ≤ z ∧ z < a1 - 3
    · rw [decide_eq_true (show 0 ≤ z ∧ z < a1 - 3 ∧ 0 ≤ (0 : Int) ∧ 0 < a2 by omega), decide_eq_false (show ¬ (0 ≤ b ∧ b ≤ (a0 - 1) * a2 - 1) from fun x => h ⟨g, t.1, t.2, x.1, by omega⟩)]; rfl
    · rw [decide_eq_false (show ¬ (0 ≤ z ∧ z < a1 - 3 ∧ 0 ≤ (0 : Int) ∧ 0 < a2) by omega)]; rfl
  · rw [there_no k g]; rfl
end
/-! ### the pieces of a range -/
theorem divmod_of {w q e x : Int} (hw : 0 < w) (hx : x = w * q + e) (h0 : 0 ≤ e) (h1 : e < w) : x / w = q ∧ x % w = e := by
  subst hx
  constructor
  · rw [Int.add_comm, Int.add_mul_ediv_left _ _ (by omega), Int.ediv_eq_zero_of_lt h0 h1]; omega
  · rw [Int.add_comm, Int.add_mul_emod_self_left]; exact Int.emod_eq_of_lt h0 h1
def cntV (w f n : Int) : Int := if w - f % w < n then w - f % w else n
abbrev Pc := Int × (Int × Int)
def IsP (w : Int) : Int → Int → List Pc → Prop
  | _, n, [] => n = 0
  | f, n, p :: l => 0 < n ∧ p = (f / w, (f % w, cntV w f n)) ∧ IsP w (f + cntV w f n) (n - cntV w f n) l
theorem cntV_bounds {w f n : Int} (hw : 1 ≤ w) (hn : 0 < n) : 1 ≤ cntV w f n ∧ cntV w f n ≤ n ∧ 0 ≤ f % w ∧ f % w + cntV w f n ≤ w ∧ (f % w + cntV w f n = w ∨ cntV w f n = n) := by
  have h0 := Int.emod_nonneg f (show w ≠ 0 by omega)
  have h1 := Int.emod_lt_of_pos f (show 0 < w by omega)
  unfold cntV
  split <;> omega
theorem pieces_loop {R : Type} (e0 : List Pc → Option R) (k : Nat) {w : Int} (hw : 1 ≤ w) (hw2 : w ≤ 9223372036854775807) (j : Nat) :
    ∀ (f n : Int) (acc : List Pc), 0 ≤ f → 0 ≤ n → f + n ≤ 3000000000000 → n.toNat < j → acc.length + n.toNat ≤ 100000 →
      ∃ l, stripe_Pieces_l1 e0 k w j f n acc = e0 (acc ++ l) ∧ IsP w f n l ∧ l.length ≤ n.toNat := by
  induction j with
  | zero => intro f n acc _ _ _ hk _; omega
  | succ j ih =>
    intro f n acc hf hn hb hk ha
    rw [stripe_Pieces_l1]
    simp only [stripe_Pieces_l1s, Bool.cond_decide]
    by_cases hn0 : 0 < n
    · have hc := cntV_bounds (f := f) hw hn0
      have hm1 := Int.emod_lt_of_pos f (show 0 < w by omega)
      have hdv0 := Int.ediv_nonneg hf (show 0 ≤ w by omega)
      have hdv1 : f / w ≤ f := Int.ediv_le_self _ hf
      obtain ⟨l, h1, h2, h3⟩ := ih (f + cntV w f n) (n - cntV w f n) (acc ++ [(f / w, (f % w, cntV w f n))]) (by omega) (by omega) (by omega) (by omega) (by simp; omega)
      refine ⟨(f / w, (f % w, cntV w f n)) :: l, ?_, ⟨hn0, rfl, h2⟩, by simp; omega⟩
      have hcv : (if w - f % w < n then w - f % w else n) = cntV w f n := rfl
      rw [if_pos hn0, if_neg (show ¬ w = 0 by omega), if_neg (show ¬ w = 0 by omega), tmod_pos hf, tdiv_pos hf, w64 (n := w - f % w) (by omega) (by omega), hcv, w64 (n := f / w) (by omega) (by omega), if_pos (by simp; omega),
        w64 (n := f + cntV w f n) (by omega) (by omega), w64 (n := n - cntV w f n) (by omega) (by omega), h1]
      simp
    · refine ⟨[], ?_, by unfold IsP; omega, by simp⟩
      rw [if_neg hn0]; simp
theorem pieces_in {w f n : Int} (hw : 1 ≤ w) (hw2 : w ≤ 9223372036854775807) (hf : 0 ≤ f) (hn : 1 ≤ n) (hf2 : f ≤ 1099511627776) (hn2 : n ≤ 1099511627776 - f) (hn3 : n ≤ 50000) (k : Nat) (hk : n.toNat < k) :
    ∃ l, stripe_Pieces k w f n = some (true, l) ∧ IsP w f n l ∧ l.length ≤ n.toNat := by
  obtain ⟨l, h1, h2, h3⟩ := pieces_loop (fun b => some (true, b)) k hw hw2 k f n [] hf (by omega) (by omega) hk (by simp; omega)
  refine ⟨l, ?_, h2, h3⟩
  simp only [stripe_Pieces, Bool.cond_decide, stripe_Pieces_j0, stripe_Pieces_k0, stripe_Pieces_k1, cond_true]
  rw [if_neg (by omega), if_neg (by omega), if_neg (by omega), if_neg (by omega), w64 (n := 1099511627776 - f) (by omega) (by omega), if_neg (by omega)]
  simpa using h1
theorem pieces_no {w f n : Int} (h : ¬ (1 ≤ w ∧ 0 ≤ f ∧ 1 ≤ n ∧ f ≤ 1099511627776 ∧ n ≤ 1099511627776 - f)) (k : Nat) : stripe_Pieces k w f n = some (true, []) := by
  simp only [stripe_Pieces, Bool.cond_decide, stripe_Pieces_j0, stripe_Pieces_k0, stripe_Pieces_k1, cond_true]
  by_cases h1 : w < 1
  · rw [if_pos h1]
  by_cases h2 : f < 0
  · rw [if_neg h1, if_pos h2]
  by_cases h3 : n < 1
  · rw [if_neg h1, if_neg h2, if_pos h3]
  by_cases h4 : 1099511627776 < f
  · rw [if_neg h1, if_neg h2, if_neg h3, if_pos h4]
  rw [if_neg h1, if_neg h2, if_neg h3, if_neg h4, w64 (n := 1099511627776 - f) (by omega) (by omega), if_pos (by omega)]
theorem drop_at {α : Type} (L : List α) (i : Nat) (p : α) (l : List α) (h : L.drop i = p :: l) : L[i]? = some p ∧ i < L.length ∧ L.drop (i + 1) = l := by
  have hi : i < L.length := by
    rcases Nat.lt_or_ge i L.length with h1 | h1
    · exact h1
    · rw [List.drop_eq_nil_of_le h1] at h; cases h
  rw [List.drop_eq_getElem_cons hi] at h
  injection h with h1 h2
  exact ⟨by rw [List.getElem?_eq_getElem hi, h1], hi, h2⟩
/-! ### the steps of a write -/
abbrev St := Int × (Int × (Int × (Int × Int)))
def blockSteps (d zone stop b : Int) : List St :=
  (1, slotOf d zone (b / (d - 1)) (b % (d - 1)), b / (d - 1), b, 0) :: (if b % (d - 1) = d - 2 then [(2, (zone + b / (d - 1)) % d, b / (d - 1), 0, 0)] else if b = stop - 1 then [(3, (zone + b / (d - 1)) % d, b / (d - 1), 0, b % (d - 1) + 1)] else [])
def stepsR (d zone stop : Int) : Nat → Int → List St
  | 0, _ => []
  | m + 1, b => blockSteps d zone stop b ++ stepsR d zone stop m (b + 1)
theorem blockSteps_length (d zone stop b : Int) : (blockSteps d zone stop b).length ≤ 2 := by
  unfold blockSteps; split
  · simp
  · split <;> simp
theorem stepsR_length (d zone stop : Int) (m : Nat) : ∀ b, (stepsR d zone stop m b).length ≤ 2 * m := by
  induction m with
  | zero => intro b; simp [stepsR]
  | succ m ih =>
    intro b
    have h1 := blockSteps_length d zone stop b
    have h2 := ih (b + 1)
    simp only [stepsR, List.length_append]; omega
theorem stepsR_add (d zone stop : Int) (i : Nat) : ∀ (j : Nat) (b : Int), stepsR d zone stop (i + j) b = stepsR d zone stop i b ++ stepsR d zone stop j (b + i) := by
  induction i with
  | zero => intro j b; simp [stepsR]
  | succ i ih =>
    intro j b
    rw [show i + 1 + j = (i + j) + 1 by omega]
    simp only [stepsR, ih, List.append_assoc]
    rw [show b + 1 + (i : Int) = b + ((i + 1 : Nat) : Int) by omega]
def dataS (d zone : Int) : Nat → Int → List St
  | 0, _ => []
  | m + 1, b => (1, slotOf d zone (b / (d - 1)) (b % (d - 1)), b / (d - 1), b, 0) :: dataS d zone m (b + 1)
theorem dataS_length (d zone : Int) (m : Nat) : ∀ b, (dataS d zone m b).length = m := by
  induction m with
  | zero => intro b; rfl
  | succ m ih => intro b; simp [dataS, ih]
/-- the blocks of a row, and what ends them -/
theorem row_steps {d zone stop r : Int} (hd : 3 ≤ d) (c : Nat) : ∀ (e b : Int), b = (d - 1) * r + e → 0 ≤ e → e + (c + 1 : Nat) ≤ d - 1 → (e + (c + 1 : Nat) = d - 1 ∨ b + (c + 1 : Nat) = stop) → b + (c + 1 : Nat) ≤ stop →
    stepsR d zone stop (c + 1) b = dataS d zone (c + 1) b ++ [if e + (c + 1 : Nat) < d - 1 then (3, (zone + r) % d, r, 0, e + (c + 1 : Nat)) else (2, (zone + r) % d, r, 0, 0)] := by
  induction c with
  | zero =>
    intro e b hb e0 e1 hs hs2
    have hdm := divmod_of (w := d - 1) (q := r) (e := e) (x := b) (by omega) hb e0 (by omega)
    simp only [stepsR, blockSteps, dataS, hdm.1, hdm.2]
    by_cases h : e + (0 + 1 : Nat) < d - 1
    · rw [if_neg (show ¬ e = d - 2 by omega), if_pos (show b = stop - 1 by omega), if_pos h]
      simp
    · rw [if_pos (show e = d - 2 by omega), if_neg h]; simp
  | succ c ih =>
    intro e b hb e0 e1 hs hs2
    have hdm := divmod_of (w := d - 1) (q := r) (e := e) (x := b) (by omega) hb e0 (by omega)
    have := ih (e + 1) (b + 1) (by omega) (by omega) (by omega) (by omega) (by omega)
    rw [stepsR, this]
    show _ = (1, slotOf d zone (b / (d - 1)) (b % (d - 1)), b / (d - 1), b, 0) :: dataS d zone (c + 1) (b + 1) ++ _
    simp only [blockSteps, hdm.1, hdm.2]
    rw [if_neg (show ¬ e = d - 2 by omega), if_neg (show ¬ b = stop - 1 by omega), show e + 1 + ((c + 1 : Nat) : Int) = e + ((c + 1 + 1 : Nat) : Int) by omega]
    rfl
section
variable {a0 a1 a2 a3 a4 : Int}
theorem write_l2_val {R : Type} (e0 : List St → Option R) (k : Nat) (g : GG a0 a1 a2 a3 a4) {z f c : Int} (z0 : 0 ≤ z) (z1 : z < a1 - 3) (f0 : 0 ≤ f) (hc : f + c ≤ (a0 - 1) * a2) : ∀ (u j : Nat) (b : Int) (out : List St), f ≤ b → b ≤ f + c → (f + c - b).toNat = u → u < j → out.length + u ≤ 100000 →
    plan_Write_l2 e0 k z f a0 a1 a2 a3 a4 c j b out = e0 (out ++ dataS a0 z u b) := by
  have hcb := cap_bound g
  intro u
  induction u with
  | zero =>
    intro j b out b0 b1 hu hj ho
    obtain ⟨j, rfl⟩ : ∃ u, j = u + 1 := ⟨j - 1, by omega⟩
    rw [plan_Write_l2]; unfold plan_Write_l2s
    rw [w64 (n := f + c) (by omega) (by omega), decide_eq_false (by omega), cond_false]; simp [dataS]
  | succ u ih =>
    intro j b out b0 b1 hu hj ho
    obtain ⟨j, rfl⟩ : ∃ u, j = u + 1 := ⟨j - 1, by omega⟩
    rw [plan_Write_l2]; unfold plan_Write_l2s
    rw [w64 (n := f + c) (by omega) (by omega), decide_eq_true (show b < f + c by omega), cond_true, place_yes k g z0 z1 (by omega) (by omega)]
    simp only [optb, List.length_singleton]
    rw [decide_eq_true (show out.length + 1 ≤ 1099511627776 by omega), cond_true, w64 (n := b + 1) (by omega) (by omega), ih j (b + 1) _ (by omega) (by omega) (by omega) (by omega) (by rw [List.length_append, List.length_singleton]; omega)]
    rw [dataS, List.append_assoc]; rfl
theorem write_l1_val {R : Type} (e0 : List St → Option R) (k : Nat) (hk : 10000 ≤ k) (g : GG a0 a1 a2 a3 a4) {z stop : Int} (z0 : 0 ≤ z) (z1 : z < a1 - 3) (hstop : stop ≤ (a0 - 1) * a2) (L : List Pc) (hL : L.length ≤ 10000) (l : List Pc) :
    ∀ (i j : Nat) (f n : Int) (out : List St), L.drop i = l → IsP (a0 - 1) f n l → 0 ≤ f → 0 ≤ n → f + n = stop → l.length < j → out.length + 2 * n.toNat ≤ 50000 →
      plan_Write_l1 e0 k z (a0 - 1) L.length a0 a1 a2 a3 a4 L j i out = e0 (out ++ stepsR a0 z stop n.toNat f) := by
  have hc := cap_bound g
  have g' := g
  obtain ⟨h1, h2, h3, h4, h5, h6, _⟩ := g'
  induction l with
  | nil =>
    intro i j f n out hd hp hf0 hn0 hs hj ho
    obtain ⟨j, rfl⟩ : ∃ q, j = q + 1 := ⟨j - 1, by omega⟩
    have hi : L.length ≤ i := by
      rcases Nat.lt_or_ge i L.length with h1 | h1
      · rw [List.drop_eq_getElem_cons h1] at hd; cases hd
      · exact h1
    have hp : n = 0 := hp
    rw [plan_Write_l1]; unfold plan_Write_l1s
    rw [decide_eq_false (by omega), cond_false, hp]
    simp [stepsR]
  | cons p l ih =>
    intro i j f n out hd hp hf0 hn0 hs hj ho
    rw [List.length_cons] at hj
    obtain ⟨j, rfl⟩ : ∃ q, j = q + 1 := ⟨j - 1, by omega⟩
    obtain ⟨hn, rfl, hp2⟩ := hp
    obtain ⟨hrd, hil, hdrop⟩ := drop_at L i _ l hd
    have hcb := cntV_bounds (w := a0 - 1) (f := f) (n := n) (by omega) hn
    have hdm := Int.emod_add_mul_ediv f (a0 - 1)
    have hr0 := Int.ediv_nonneg hf0 (show 0 ≤ a0 - 1 by omega)
    have hr1 : f / (a0 - 1) < a2 := Int.ediv_lt_of_lt_mul (by omega) (by rw [Int.mul_comm]; omega)
    have hmr := mul_row (d := a0) (b := a2) (row := f / (a0 - 1)) h1 hr0 (by omega)
    have hx : wrap64 (wrap64 (f / (a0 - 1) * (a0 - 1)) + f % (a0 - 1)) = f := by
      rw [w64 (n := f / (a0 - 1) * (a0 - 1)) (by omega) (by omega), Int.mul_comm, w64 (by omega) (by omega)]; omega
    obtain ⟨c, hcc⟩ : ∃ c : Nat, cntV (a0 - 1) f n = ((c + 1 : Nat) : Int) := ⟨(cntV (a0 - 1) f n).toNat - 1, by omega⟩
    rw [hcc] at hcb hp2
    rw [plan_Write_l1]; unfold plan_Write_l1s plan_Write_j3 plan_Write_k2 plan_Write_j4
    rw [lenI_eq, decide_eq_true (show (i : Int) < L.length by omega), decide_eq_true (show (0 : Int) ≤ i by omega), Int.toNat_natCast, hrd]
    simp only [optb, cond_true, Bool.and_self, List.length_singleton]
    rw [hx, hcc, write_l2_val _ k g z0 z1 hf0 (by omega) (c + 1) k f out (Int.le_refl f) (by omega) (by omega) (by omega) (by omega), par_yes k g ⟨z0, z1, hr0, hr1⟩]
    have hlen : (out ++ dataS a0 z (c + 1) f).length = out.length + (c + 1) := by rw [List.length_append, dataS_length]
    have hrow := row_steps (d := a0) (zone := z) (stop := stop) (r := f / (a0 - 1)) h1 c (f % (a0 - 1)) f (by omega) hcb.2.2.1 hcb.2.2.2.1 (by omega) (by omega)
    simp only
    rw [hlen, decide_eq_true (show out.length + (c + 1) + 1 ≤ 1099511627776 by omega), w64 (n := f % (a0 - 1) + ((c + 1 : Nat) : Int)) (by omega) (by omega), w64 (n := (i : Int) + 1) (by omega) (by omega)]
    simp only [cond_true]
    have hgo : ∀ x : St, x = (if f % (a0 - 1) + ((c + 1 : Nat) : Int) < a0 - 1 then (3, (z + f / (a0 - 1)) % a0, f / (a0 - 1), 0, f % (a0 - 1) + ((c + 1 : Nat) : Int)) else (2, (z + f / (a0 - 1)) % a0, f / (a0 - 1), 0, 0)) →
        plan_Write_l1 e0 k z (a0 - 1) L.length a0 a1 a2 a3 a4 L j ((i : Int) + 1) (out ++ dataS a0 z (c + 1) f ++ [x]) = e0 (out ++ stepsR a0 z stop n.toNat f) := by
      intro x hx
      have e := ih (i + 1) j (f + ((c + 1 : Nat) : Int)) (n - ((c + 1 : Nat) : Int)) (out ++ dataS a0 z (c + 1) f ++ [x]) hdrop hp2 (by omega) (by omega) (by omega) (by omega) (by rw [List.length_append, hlen, List.length_singleton]; omega)
      rw [show ((i + 1 : Nat) : Int) = (i : Int) + 1 by omega] at e
      rw [e, show n.toNat = (c + 1) + (n - ((c + 1 : Nat) : Int)).toNat by omega, stepsR_add, hrow, ← hx]
      simp [List.append_assoc]
    by_cases h : f % (a0 - 1) + ((c + 1 : Nat) : Int) < a0 - 1
    · rw [decide_eq_true h, cond_true]; exact hgo _ (by rw [if_pos h])
    · rw [decide_eq_false h, cond_false]; exact hgo _ (by rw [if_neg h])
def InZFN (a0 a1 a2 z f n : Int) : Prop := 0 ≤ z ∧ z < a1 - 3 ∧ 0 ≤ f ∧ 1 ≤ n ∧ f + n ≤ (a0 - 1) * a2
theorem write_in (k : Nat) (hk : 10000 ≤ k) (g : GG a0 a1 a2 a3 a4) {z f n : Int} (h : InZFN a0 a1 a2 z f n) : plan_Write k a0 a1 a2 a3 a4 z f n = some ((true, stepsR a0 z (f + n) n.toNat f), 0) := by
  obtain ⟨z0, z1, f0, n1, fn⟩ := h
  have hc := cap_bound g
  have g' := g
  obtain ⟨h1, h2, h3, h4, h5, h6, _⟩ := g'
  obtain ⟨L, e1, e2, e3⟩ := pieces_in (w := a0 - 1) (f := f) (n := n) (by omega) (by omega) f0 n1 (by omega) (by omega) (by omega) k (by omega)
  unfold plan_Write
  rw [good_val, decide_eq_true g, zones_yes k g, cap_yes k g]
  simp only [optb, Bool.not_true, cond_false]
  rw [decide_eq_false (show ¬ z < 0 by omega), decide_eq_false (show ¬ a1 - 3 ≤ z by omega), decide_eq_false (show ¬ f < 0 by omega), decide_eq_false (show ¬ n < 1 by omega), decide_eq_false (show ¬ (a0 - 1) * a2 < f by omega), w64 (n := (a0 - 1) * a2 - f) (by omega) (by omega), decide_eq_false (show ¬ (a0 - 1) * a2 - f < n by omega)]
  simp only [cond_false, plan_Write_j0, plan_Write_k1]
  rw [w64 (n := a0 - 1) (by omega) (by omega), e1]
  simp only [optb, lenI_eq]
  have := write_l1_val (fun out => some ((true, out), (0 : Int))) k hk g z0 z1 (stop := f + n) fn L (by omega) L 0 k f n [] rfl e2 f0 (by omega) rfl (by omega) (by simp; omega)
  rw [List.nil_append] at this
  exact this
theorem write_bad (k : Nat) (g : GG a0 a1 a2 a3 a4) {z f n : Int} (hf : -9223372036854775808 ≤ f ∧ f ≤ 9223372036854775807) (h : ¬ InZFN a0 a1 a2 z f n) : plan_Write k a0 a1 a2 a3 a4 z f n = some ((true, []), 2) := by
  have hc := cap_bound g
  unfold plan_Write
  rw [good_val, decide_eq_true g, zones_yes k g, cap_yes k g]
  simp only [optb, Bool.not_true, cond_false]
  by_cases c1 : z < 0
  · rw [decide_eq_true c1]; rfl
  by_cases c2 : a1 - 3 ≤ z
  · rw [decide_eq_false c1, decide_eq_true c2]; rfl
  by_cases c3 : f < 0
  · rw [decide_eq_false c1, decide_eq_false c2, decide_eq_true c3]; rfl
  by_cases c4 : n < 1
  · rw [decide_eq_false c1, decide_eq_false c2, decide_eq_false c3, decide_eq_true c4]; rfl
  by_cases c5 : (a0 - 1) * a2 < f
  · rw [decide_eq_false c1, decide_eq_false c2, decide_eq_false c3, decide_eq_false c4, decide_eq_true c5]; rfl
  rw [decide_eq_false c1, decide_eq_false c2, decide_eq_false c3, decide_eq_false c4, decide_eq_false c5, w64 (n := (a0 - 1) * a2 - f) (by omega) (by omega), decide_eq_true (show (a0 - 1) * a2 - f < n by
    by_cases e : (a0 - 1) * a2 - f < n
    · exact e
    · exact absurd ⟨by omega, by omega, by omega, by omega, by omega⟩ h)]; rfl
end
theorem and_mask (x : Int) (i : Nat) (hi : i ≤ 62) : bitop .and .i64 x (2 ^ i - 1) = x % 2 ^ i := by
  have h2 : (2 : Nat) ^ i ≤ 2 ^ 62 := Nat.pow_le_pow_right (by decide) hi
  have h62 : (2 : Nat) ^ 62 = 4611686018427387904 := by decide
  have h64 : (2 : Nat) ^ 64 = 18446744073709551616 := by decide
  have hp : 0 < 2 ^ i := Nat.two_pow_pos i
  have hc : ((2 : Int) ^ i - 1) = ((2 ^ i - 1 : Nat) : Int) := by rw [Int.natCast_sub hp]; simp
  have hd : (2 ^ i : Nat) ∣ 2 ^ 64 := Nat.pow_dvd_pow 2 (by omega)
  have hb : IntKind.i64.bits = 64 := rfl
  have key : ((BitVec.ofInt 64 x &&& BitVec.ofInt 64 (2 ^ i - 1)).toNat : Int) = x % 2 ^ i := by
    rw [hc, BitVec.ofInt_natCast, BitVec.toNat_and, BitVec.toNat_ofNat, Nat.mod_eq_of_lt (show 2 ^ i - 1 < 2 ^ 64 by omega), Nat.and_two_pow_sub_one_eq_mod, BitVec.toNat_ofInt,
      Int.natCast_emod, Int.toNat_of_nonneg (Int.emod_nonneg _ (by decide)), Int.emod_emod_of_dvd]
    · simp
    · exact Int.natCast_dvd_natCast.2 hd
  have hlt : ((BitVec.ofInt 64 x &&& BitVec.ofInt 64 (2 ^ i - 1)).toNat : Int) < 4611686018427387904 := by
    rw [key]
    have : x % ((2 ^ i : Nat) : Int) < ((2 ^ i : Nat) : Int) := Int.emod_lt_of_pos _ (by omega)
    have e : ((2 ^ i : Nat) : Int) = (2 : Int) ^ i := by simp
    rw [e] at this
    have : (2 : Int) ^ i ≤ 4611686018427387904 := by rw [← e]; omega
    omega
  show IntKind.i64.wrap ((BitVec.ofInt 64 x &&& BitVec.ofInt 64 (2 ^ i - 1)).toNat : Int) = x % 2 ^ i
  rw [IntKind.wrap_i64]
  omega
theorem lens_set {d z b s : Int} (hd : 0 ≤ d) (s0 : 0 ≤ s) (s1 : s < d) (f : Int → Int) (L : List Int) (hl : (L.length : Int) = d) (hL : ∀ q, 0 ≤ q → q < d → lat L q = f q) (v : Int) : ((L.set s.toNat v).length : Int) = d ∧ ∀ q, 0 ≤ q → q < d → lat (L.set s.toNat v) q = if q = s then v else f q := by
  refine ⟨by rw [List.length_set]; exact hl, fun q q0 q1 => ?_⟩
  rw [lat_set s0 (by omega) v q0]
  by_cases e : q = s
  · rw [if_pos e, if_pos e]
  · rw [if_neg e, if_neg e]; exact hL q q0 q1
section
variable {a0 a1 a2 a3 a4 : Int}
theorem l3_note {R : Type} (e0 : Bool → List Int → Option R) (e1 : List Int → Option R) (k : Nat) (d : Int) (l : List St) (i j : Nat) (L : List Int) (p : St) (h : l[i]? = some p) (hi : i < l.length) (hb : l.length ≤ 100000) (hp : p.1 = 3) :
    corbellaw13_PlanLengths_l3 e0 e1 k d l (j + 1) i L = corbellaw13_PlanLengths_l3 e0 e1 k d l j ((i + 1 : Nat) : Int) L := by
  rw [corbellaw13_PlanLengths_l3]; unfold corbellaw13_PlanLengths_l3s corbellaw13_PlanLengths_j6 corbellaw13_PlanLengths_k2
  rw [lenI_eq, decide_eq_true (show (i : Int) < l.length by omega), decide_eq_true (show (0 : Int) ≤ i by omega), Int.toNat_natCast, h]
  simp only [optb, cond_true, Bool.and_self]
  rw [decide_eq_true hp, cond_true, w64 (by omega) (by omega)]; rfl
theorem l3_step {R : Type} (e0 : Bool → List Int → Option R) (e1 : List Int → Option R) (k : Nat) (d : Int) (l : List St) (i j : Nat) (L : List Int) (p : St) (h : l[i]? = some p) (hi : i < l.length) (hb : l.length ≤ 100000) (hp : p.1 ≠ 3) (hl : (L.length : Int) = d) (s0 : 0 ≤ p.2.1) (s1 : p.2.1 < d) (hr : p.2.2.1 = lat L p.2.1) (hw : -1000 ≤ lat L p.2.1 ∧ lat L p.2.1 ≤ 1000) :
    corbellaw13_PlanLengths_l3 e0 e1 k d l (j + 1) i L = corbellaw13_PlanLengths_l3 e0 e1 k d l j ((i + 1 : Nat) : Int) (L.set p.2.1.toNat (lat L p.2.1 + 1)) := by
  rw [corbellaw13_PlanLengths_l3]; unfold corbellaw13_PlanLengths_l3s corbellaw13_PlanLengths_j6 corbellaw13_PlanLengths_k2 corbellaw13_PlanLengths_j4 corbellaw13_PlanLengths_j5 corbellaw13_PlanLengths_k4
  rw [lenI_eq, decide_eq_true (show (i : Int) < l.length by omega), decide_eq_true (show (0 : Int) ≤ i by omega), Int.toNat_natCast, h]
  simp only [optb, cond_true, Bool.and_self, lenI_eq]
  rw [decide_eq_false hp, decide_eq_false (show ¬ p.2.1 < 0 by omega), decide_eq_false (show ¬ d ≤ p.2.1 by omega), decide_eq_true s0, decide_eq_true (show p.2.1 < (L.length : Int) by omega), lat_some s0 (by omega)]
  simp only [cond_true, cond_false, Bool.and_self]
  rw [decide_eq_true hr, w64 (n := (i : Int) + 1) (by omega) (by omega), w64 (n := lat L p.2.1 + 1) (by omega) (by omega)]; rfl
theorem l3_block {R : Type} (e0 : Bool → List Int → Option R) (e1 : List Int → Option R) (k : Nat) (g : GG a0 a1 a2 a3 a4) {z stop b : Int} (b0 : 0 ≤ b) (b1 : b < (a0 - 1) * a2) (l : List St) (hb : l.length ≤ 100000) (i : Nat) (rest : List St) (h : l.drop i = blockSteps a0 z stop b ++ rest) :
    ∃ (i' c : Nat), l.drop i' = rest ∧ c ≤ 2 ∧ ∀ j, corbellaw13_PlanLengths_l3 e0 e1 k a0 l (j + c) i (lensL a0 z b) = corbellaw13_PlanLengths_l3 e0 e1 k a0 l j i' (lensL a0 z (b + 1)) := by
  have g' := g
  obtain ⟨h1, h2, h3, h4, h5, h6, _⟩ := g'
  have hd : (0 : Int) ≤ a0 := by omega
  have hr := block_row (rows := a2) h1 b0 b1
  have hs := sl_lt (show 0 < a0 by omega) z (b / (a0 - 1)) (b % (a0 - 1))
  have hp := par_range a0 z (b / (a0 - 1)) h1
  have hso : sl a0 z (b / (a0 - 1)) (b % (a0 - 1)) = sOf a0 ((z + b / (a0 - 1)) % a0) (b % (a0 - 1)) := slotOf_eq h1 hr.2.2.1 (by omega)
  have hsr := sOf_range hp.1 hp.2 hr.2.2.1 (show b % (a0 - 1) ≤ a0 - 2 by omega)
  have hne : sl a0 z (b / (a0 - 1)) (b % (a0 - 1)) ≠ (z + b / (a0 - 1)) % a0 := by rw [hso]; exact hsr.2.2
  have hv1 : lenV a0 z b (sl a0 z (b / (a0 - 1)) (b % (a0 - 1))) = b / (a0 - 1) := by
    unfold lenV
    rw [if_neg (fun x => by
      have hk := kOf_sOf hp.1 hp.2 hr.2.2.1 (show b % (a0 - 1) ≤ a0 - 2 by omega)
      rw [hso, hk] at x
      omega), Int.add_zero]
  have hv2 : lenV a0 z b ((z + b / (a0 - 1)) % a0) = b / (a0 - 1) := by unfold lenV; rw [if_neg (fun x => x.1 rfl), Int.add_zero]
  have hLl := lensL_length hd z b
  have hLl' := lensL_length hd z (b + 1)
  have hat : ∀ q, 0 ≤ q → q < a0 → lat (lensL a0 z b) q = lenV a0 z b q := fun q q0 q1 => lensL_at q0 q1
  have hstep : ∀ q, 0 ≤ q → q < a0 → lenV a0 z (b + 1) q = lenV a0 z b q + (if q = sl a0 z (b / (a0 - 1)) (b % (a0 - 1)) then 1 else 0) + (if b % (a0 - 1) = a0 - 2 ∧ q = (z + b / (a0 - 1)) % a0 then 1 else 0) := fun q q0 q1 => lenV_step h1 b0 q0 q1
  generalize hsl : sl a0 z (b / (a0 - 1)) (b % (a0 - 1)) = s at *
  generalize hpr : (z + b / (a0 - 1)) % a0 = pr at *
  unfold blockSteps at h
  rw [show slotOf a0 z (b / (a0 - 1)) (b % (a0 - 1)) = s from hsl, hpr, List.cons_append] at h
  obtain ⟨e, hi, hd1⟩ := drop_at l i _ _ h
  have hv1' : lat (lensL a0 z b) s = b / (a0 - 1) := by rw [hat s hs.1 hs.2, hv1]
  have st1 : ∀ j, corbellaw13_PlanLengths_l3 e0 e1 k a0 l (j + 1) i (lensL a0 z b) = corbellaw13_PlanLengths_l3 e0 e1 k a0 l j ((i + 1 : Nat) : Int) ((lensL a0 z b).set s.toNat (b / (a0 - 1) + 1)) := fun j => by
    have := l3_step e0 e1 k a0 l i j (lensL a0 z b) _ e hi hb (by simp) hLl hs.1 hs.2 hv1'.symm (by simp only; rw [hv1']; omega)
    simp only at this
    rw [hv1'] at this
    exact this
  obtain ⟨m1, m2⟩ := lens_set (z := z) (b := b) hd hs.1 hs.2 (lenV a0 z b) _ hLl hat (b / (a0 - 1) + 1)
  by_cases c1 : b % (a0 - 1) = a0 - 2
  · rw [if_pos c1, List.cons_append, List.nil_append] at hd1
    obtain ⟨e', hi', hd2⟩ := drop_at l (i + 1) _ _ hd1
    refine ⟨i + 1 + 1, 2, hd2, by omega, fun j => ?_⟩
    have hv2' : lat ((lensL a0 z b).set s.toNat (b / (a0 - 1) + 1)) pr = b / (a0 - 1) := by rw [m2 pr hp.1 hp.2, if_neg (fun x => hne x.symm), hv2]
    rw [show j + 2 = (j + 1) + 1 by omega, st1, l3_step e0 e1 k a0 l (i + 1) j _ _ e' hi' hb (by simp) m1 hp.1 hp.2 hv2'.symm (by simp only; rw [hv2']; omega)]
    simp only
    rw [hv2']
    congr 1
    have mm := lens_set (z := z) (b := b) hd hp.1 hp.2 _ _ m1 m2 (b / (a0 - 1) + 1)
    refine lat_ext (by omega) (fun q q0 q1 => ?_)
    rw [mm.2 q q0 (by omega), lensL_at q0 (by omega), hstep q q0 (by omega)]
    by_cases x1 : q = pr
    · rw [if_pos x1, if_neg (fun x => hne (by rw [← x1, x])), if_pos ⟨c1, x1⟩, x1, hv2]; omega
    · rw [if_neg x1, if_neg (fun x : b % (a0 - 1) = a0 - 2 ∧ q = pr => x1 x.2)]
      by_cases x2 : q = s
      · rw [if_pos x2, if_pos x2, x2, hv1]; omega
      · rw [if_neg x2, if_neg x2]; omega
  · have hend : (lensL a0 z b).set s.toNat (b / (a0 - 1) + 1) = lensL a0 z (b + 1) := by
      refine lat_ext (by omega) (fun q q0 q1 => ?_)
      rw [m2 q q0 (by omega), lensL_at q0 (by omega), hstep q q0 (by omega), if_neg (fun x : b % (a0 - 1) = a0 - 2 ∧ q = pr => c1 x.1)]
      by_cases x2 : q = s
      · rw [if_pos x2, if_pos x2, x2, hv1]; omega
      · rw [if_neg x2, if_neg x2]; omega
    rw [if_neg c1] at hd1
    by_cases c2 : b = stop - 1
    · rw [if_pos c2, List.cons_append, List.nil_append] at hd1
      obtain ⟨e', hi', hd2⟩ := drop_at l (i + 1) _ _ hd1
      refine ⟨i + 1 + 1, 2, hd2, by omega, fun j => ?_⟩
      rw [show j + 2 = (j + 1) + 1 by omega, st1, l3_note e0 e1 k a0 l (i + 1) j _ _ e' hi' hb rfl, hend]
    · rw [if_neg c2, List.nil_append] at hd1
      exact ⟨i + 1, 1, hd1, by omega, fun j => by rw [st1, hend]⟩
theorem l3_val {R : Type} (e0 : Bool → List Int → Option R) (e1 : List Int → Option R) (k : Nat) (g : GG a0 a1 a2 a3 a4) {z stop : Int} (l : List St) (hb : l.length ≤ 100000) : ∀ (m : Nat) (b : Int) (i j : Nat), 0 ≤ b → b + m ≤ (a0 - 1) * a2 → l.drop i = stepsR a0 z stop m b → 2 * m < j → i ≤ l.length →
    corbellaw13_PlanLengths_l3 e0 e1 k a0 l j i (lensL a0 z b) = e1 (lensL a0 z (b + m)) := by
  intro m
  induction m with
  | zero =>
    intro b i j b0 b1 hd hj hi
    obtain ⟨j, rfl⟩ : ∃ u, j = u + 1 := ⟨j - 1, by omega⟩
    have hlen : l.length ≤ i := by
      rcases Nat.lt_or_ge i l.length with h1 | h1
      · rw [List.drop_eq_getElem_cons h1] at hd; cases hd
      · exact h1
    rw [corbellaw13_PlanLengths_l3]; unfold corbellaw13_PlanLengths_l3s
    rw [lenI_eq, decide_eq_false (by omega), cond_false, show b + ((0 : Nat) : Int) = b by omega]
  | succ m ih =>
    intro b i j b0 b1 hd hj hi
    rw [stepsR] at hd
    obtain ⟨i', c, hd', hc, hs⟩ := l3_block e0 e1 k g (z := z) (stop := stop) b0 (by omega) l hb i _ hd
    obtain ⟨j', rfl⟩ : ∃ j', j = j' + c := ⟨j - c, by omega⟩
    by_cases hi' : i' ≤ l.length
    · rw [hs, ih (b + 1) i' j' (by omega) (by omega) hd' (by omega) hi', show b + 1 + (m : Int) = b + ((m + 1 : Nat) : Int) by omega]
    · have e : stepsR a0 z stop m (b + 1) = [] := by rw [← hd', List.drop_eq_nil_of_le (by omega)]
      have e2 : l.drop l.length = stepsR a0 z stop m (b + 1) := by rw [e, List.drop_length]
      have m0 : m = 0 := by
        cases m with
        | zero => rfl
        | succ m => rw [stepsR, blockSteps, List.cons_append] at e; cases e
      subst m0
      obtain ⟨u, hu⟩ : ∃ u, j' = u + 1 := ⟨j' - 1, by omega⟩
      subst hu
      rw [hs, corbellaw13_PlanLengths_l3]; unfold corbellaw13_PlanLengths_l3s
      rw [lenI_eq, decide_eq_false (by omega), cond_false]; rfl
theorem l7_val {R : Type} (e0 : Bool → Option R) (e1 : Option R) (k : Nat) (hk : 100 ≤ k) {d : Int} (hd : d ≤ 16) (L : List Int) (hl : (L.length : Int) = d) : corbellaw13_PlanLengths_l7 e0 e1 k d L L k 0 = e1 := by
  rw [loopAll (corbellaw13_PlanLengths_l7 e0 e1 k d L L) 0 d (fun _ => True) e1 none
    (fun j i i0 i1 _ => by
      rw [corbellaw13_PlanLengths_l7]; unfold corbellaw13_PlanLengths_l7s
      rw [lenI_eq, decide_eq_true i1, decide_eq_true i0, decide_eq_true (show i < (L.length : Int) by omega), lat_some i0 (by omega)]
      simp only [optb, cond_true, Bool.and_self, decide_true, Bool.not_true, cond_false]
      rw [w64 (by omega) (by omega)])
    (fun j i i0 i1 hp => absurd trivial hp)
    (fun j i i0 i1 => by
      rw [corbellaw13_PlanLengths_l7]; unfold corbellaw13_PlanLengths_l7s
      rw [decide_eq_false (by omega), cond_false]) k 0 (by omega) (by omega), dc_t (fun _ _ _ => trivial), cond_true]
theorem l1_val (e1 : Option Bool) (k : Nat) (hk : 10000 ≤ k) (g : GG a0 a1 a2 a3 a4) {z : Int} (z0 : 0 ≤ z) (z1 : z < a1 - 3) (ps : List Int) : ∀ (u j i : Nat) (t : Int), 60 - i = u → i ≤ 60 → u < j → 0 ≤ t → t ≤ (a0 - 1) * a2 →
    corbellaw13_PlanLengths_l1 (fun v => some v) e1 k z ps a0 a2 a0 a1 a2 a3 a4 j t i (lensL a0 z t) = e1 := by
  have hc := cap_bound g
  have g' := g
  obtain ⟨h1, h2, h3, h4, h5, h6, _⟩ := g'
  intro u
  induction u with
  | zero =>
    intro j i t hu hi hj t0 t1
    obtain ⟨j, rfl⟩ : ∃ u, j = u + 1 := ⟨j - 1, by omega⟩
    rw [corbellaw13_PlanLengths_l1]; unfold corbellaw13_PlanLengths_l1s
    rw [decide_eq_false (show ¬ (i : Int) < 60 by omega)]
    cases decide ((i : Int) < lenI ps) <;> rfl
  | succ u ih =>
    intro j i t hu hi hj t0 t1
    obtain ⟨j, rfl⟩ : ∃ u, j = u + 1 := ⟨j - 1, by omega⟩
    rw [corbellaw13_PlanLengths_l1]; unfold corbellaw13_PlanLengths_l1s
    rw [lenI_eq]
    by_cases hip : (i : Int) < ps.length
    · rw [decide_eq_true hip, decide_eq_true (show (i : Int) < 60 by omega), decide_eq_true (show (0 : Int) ≤ i by omega), lat_some (by omega) hip]
      simp only [cond_true, optb]
      have hm := and_mask (lat ps i) 4 (by omega)
      rw [show ((2 : Int) ^ 4 - 1) = 15 by decide, show ((2 : Int) ^ 4) = 16 by decide] at hm
      rw [hm]
      have m0 := Int.emod_nonneg (lat ps i) (show (16 : Int) ≠ 0 by decide)
      have m1 := Int.emod_lt_of_pos (lat ps i) (show (0 : Int) < 16 by decide)
      rw [w64 (n := 1 + lat ps i % 16) (by omega) (by omega)]
      generalize hn : 1 + lat ps i % 16 = n
      unfold corbellaw13_PlanLengths_j2 corbellaw13_PlanLengths_j8 corbellaw13_PlanLengths_k5
      rw [w64 (n := t + n) (by omega) (by omega), w64 (n := a0 - 1) (by omega) (by omega), w64 (n := (a0 - 1) * a2) (by omega) (by omega), w64 (n := (i : Int) + 1) (by omega) (by omega)]
      have hnext := fun t' (x0 : 0 ≤ t') (x1 : t' ≤ (a0 - 1) * a2) => ih j (i + 1) t' (by omega) (by omega) (by omega) x0 x1
      by_cases hfit : t + n ≤ (a0 - 1) * a2
      · rw [write_in k hk g ⟨z0, z1, t0, by omega, hfit⟩]
        simp only
        rw [decide_eq_true hfit]
        simp only [decide_true, Bool.not_true, cond_false, beq_self_eq_true]
        have hlen := stepsR_length a0 z (t + n) n.toNat t
        have key := l3_val (fun v L => some v) (fun L => optb (plan_Lengths k a0 a1 a2 a3 a4 z (t + n)) fun r =>
            bif (!(decide ((lenI r.2) = a0))) then some false
            else corbellaw13_PlanLengths_l7 (fun v => some v) (corbellaw13_PlanLengths_l1 (fun v => some v) e1 k z ps a0 a2 a0 a1 a2 a3 a4 j (t + n) ((i : Int) + 1) L) k a0 L r.2 k (0 : Int)) k g (stepsR a0 z (t + n) n.toNat t) (by omega) n.toNat t 0 k t0 (by omega) rfl (by omega) (by omega)
        refine Eq.trans ?_ (key.trans ?_)
        · rfl
        · rw [show t + (n.toNat : Int) = t + n by omega, lengths_in k (by omega) g ⟨z0, z1, by omega, hfit⟩]
          simp only [optb, lenI_eq]
          have hll := lensL_length (d := a0) (by omega) z (t + n)
          rw [decide_eq_true hll, Bool.not_true, cond_false, l7_val _ _ k (by omega) h2 _ hll]
          exact hnext (t + n) (by omega) hfit
      · rw [write_bad k g (by omega) (fun x => hfit x.2.2.2.2)]
        simp only
        rw [decide_eq_false hfit, decide_eq_false (show ¬ (2 : Int) = 0 by decide)]
        simp only [Bool.not_false, Bool.not_true, cond_false, cond_true, beq_self_eq_true]
        exact hnext t t0 t1
    · rw [decide_eq_false hip]; rfl
end
theorem speaks13 (d : Nat) : corbellaw13_speaks (d + 300) = some true := by kernel_rfl
theorem plan_main (a0 a1 a2 a3 a4 z : Int) (pa : Bool) (ps : List Int) : corbellaw13_PlanLengths (29700 + 300) a0 a1 a2 a3 a4 z pa ps = some true := by
  unfold corbellaw13_PlanLengths
  rw [speaks13, refgood_val]
  simp only [optb, Bool.not_true, cond_false]
  generalize hk : 29700 + 300 = k
  by_cases g : GG a0 a1 a2 a3 a4
  · have hc := cap_bound g
    have g' := g
    obtain ⟨h1, h2, h3, h4, h5, h6, _⟩ := g'
    rw [decide_eq_true g, w64 (n := a1 - 4) (by omega) (by omega)]
    simp only [Bool.not_true, cond_false, corbellaw13_PlanLengths_j0]
    by_cases c1 : z < 0
    · rw [decide_eq_true c1, cond_true, cond_true, lengths_out k (fun x => by have := x.2.1; omega)]; rfl
    rw [decide_eq_false c1, cond_false]
    by_cases c2 : a1 - 4 < z
    · rw [decide_eq_true c2, cond_true, lengths_out k (fun x => by have := x.2.2.1; omega)]; rfl
    rw [decide_eq_false c2, cond_false]
    unfold corbellaw13_PlanLengths_k1
    rw [decide_eq_true (show 0 ≤ a0 by omega), decide_eq_true (Int.le_refl a0), decide_eq_true (show a0 ≤ 1099511627776 by omega)]
    simp only [Bool.and_self, cond_true]
    have hrep : List.replicate a0.toNat (Ty.zero (.int .i64)) = lensL a0 z 0 := by
      have hll := lensL_length (d := a0) (by omega) z 0
      refine lat_ext (by rw [List.length_replicate]; omega) (fun q q0 q1 => ?_)
      rw [List.length_replicate] at q1
      rw [lensL_at q0 (by omega), lenV_zero h1 q0 (by omega)]
      exact lat_rep _ q
    rw [hrep]
    refine (l1_val _ k (by omega) g (by omega) (by omega) ps 60 k 0 0 rfl (by omega) (by omega) (Int.le_refl 0) (by omega)).trans ?_
    rw [lengths_out k (fun x => by have := x.2.2.2.1; omega), w64 (n := a0 - 1) (by omega) (by omega), w64 (n := (a0 - 1) * a2) (by omega) (by omega), w64 (n := (a0 - 1) * a2 + 1) (by omega) (by omega), lengths_out k (fun x => by have := x.2.2.2.2; omega)]; rfl
  · rw [decide_eq_false g]
    simp only [Bool.not_false, cond_true, corbellaw13_PlanLengths_j0, corbellaw13_PlanLengths_k0]
    rw [lengths_out k (fun x => g x.1)]; rfl
theorem PlanLengths : PlanLengthsPure := fun x0 x1 x2 _ _ _ => ⟨29700 + 300, plan_main _ _ _ _ _ _ _ _⟩
end Go.Proofs.Ytcikcikcjimcjaa.Pure
