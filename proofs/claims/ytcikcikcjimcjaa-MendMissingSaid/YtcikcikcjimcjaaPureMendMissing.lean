/- MendMissing: the pure statement, over numbers and lists alone; no conditions. -/
import Derived.Test.YtcikcikcjimcjaaStatMendMissing
set_option linter.unusedVariables false
set_option linter.unusedSimpArgs false
namespace Go.Proofs.Ytcikcikcjimcjaa.Pure
open Go Go.RowKit Go.Proofs.Ytcikcikcjimcjaa.Ev
/-! ### whole numbers -/
theorem wf_i64 {n : Int} (h : Ty.wf (.int .i64) n) : -9223372036854775808 ≤ n ∧ n ≤ 9223372036854775807 := by
  have h : (Lit.int .i64 n).wf = true := h
  simpa [Lit.wf, IntKind.min, IntKind.max, IntKind.signed, IntKind.bits] using h
theorem w64 {n : Int} (h0 : -9223372036854775808 ≤ n) (h1 : n ≤ 9223372036854775807) : wrap64 n = n := by unfold wrap64; omega
theorem tdiv_pos {a b : Int} (ha : 0 ≤ a) : Int.tdiv a b = a / b := Int.tdiv_eq_ediv_of_nonneg ha
theorem tmod_pos {a b : Int} (ha : 0 ≤ a) : Int.tmod a b = a % b := Int.tmod_eq_emod_of_nonneg ha
theorem bytesOf_append (a b : List Int) : bytesOf a ++ bytesOf b = bytesOf (a ++ b) := by
  apply ByteArray.ext
  simp [bytesOf]
theorem cond_t {α : Type} {c : Bool} {a b : α} (h : c = true) : (bif c then a else b) = a := by rw [h]; rfl
theorem cond_f {α : Type} {c : Bool} {a b : α} (h : c = false) : (bif c then a else b) = b := by rw [h]; rfl
/-! ### the shape of an array of drives -/
def GG (a0 a1 a2 a3 a4 : Int) : Prop := 3 ≤ a0 ∧ a0 ≤ 16 ∧ 5 ≤ a1 ∧ a1 ≤ 64 ∧ 4 ≤ a2 ∧ a2 ≤ 256 ∧ 1 ≤ a3 ∧ a3 ≤ a4 ∧ a4 ≤ a1
instance (a0 a1 a2 a3 a4 : Int) : Decidable (GG a0 a1 a2 a3 a4) := by unfold GG; infer_instance
theorem within_val (k : Nat) (n l h : Int) : geom_within k n l h = some (decide (l ≤ n ∧ n ≤ h)) := by
  unfold geom_within
  by_cases a : l ≤ n <;> simp [a]
theorem good_val (k : Nat) (a0 a1 a2 a3 a4 : Int) : geom_Good k a0 a1 a2 a3 a4 = some (decide (GG a0 a1 a2 a3 a4)) := by
  unfold geom_Good
  simp only [within_val, optb]
  by_cases h1 : 3 ≤ a0 ∧ a0 ≤ 16 <;> by_cases h2 : 5 ≤ a1 ∧ a1 ≤ 64 <;> by_cases h3 : 4 ≤ a2 ∧ a2 ≤ 256 <;> by_cases h4 : 1 ≤ a3 ∧ a3 ≤ a4 <;> simp only [h1, h2, h3, h4, decide_true, decide_false, cond_true, cond_false, Option.some.injEq, decide_eq_decide, and_self] <;> first | (unfold GG; omega) | (symm; rw [decide_eq_false_iff_not]; unfold GG; omega)
theorem refgood_val (k : Nat) (a0 a1 a2 a3 a4 : Int) : corbelref04_Good k a0 a1 a2 a3 a4 = some (decide (GG a0 a1 a2 a3 a4)) := by
  unfold corbelref04_Good corbelref04_Good_j0 corbelref04_Good_k0 corbelref04_Good_k1
  by_cases h1 : a0 < 3 <;> by_cases h2 : 16 < a0 <;> by_cases h3 : a1 < 5 <;> by_cases h4 : 64 < a1 <;> by_cases h5 : a2 < 4 <;> by_cases h6 : 256 < a2 <;> by_cases h7 : 0 < a3 <;> by_cases h8 : a3 ≤ a4 <;>
    simp only [h1, h2, h3, h4, h5, h6, h7, h8, decide_true, decide_false, cond_true, cond_false, Option.some.injEq, decide_eq_decide] <;> first | (unfold GG; omega) | (symm; rw [decide_eq_false_iff_not]; unfold GG; omega)
section
variable {a0 a1 a2 a3 a4 : Int}
theorem cap_bound (h : GG a0 a1 a2 a3 a4) : 8 ≤ (a0 - 1) * a2 ∧ (a0 - 1) * a2 ≤ 3840 := by
  obtain ⟨h1, h2, _, _, h5, h6, _⟩ := h
  have e1 : 2 * 4 ≤ (a0 - 1) * a2 := Int.mul_le_mul (by omega) h5 (by omega) (by omega)
  have e2 : (a0 - 1) * a2 ≤ 15 * 256 := Int.mul_le_mul (by omega) h6 (by omega) (by omega)
  omega
theorem zones_yes (k : Nat) (h : GG a0 a1 a2 a3 a4) : geom_Zones k a0 a1 a2 a3 a4 = some (a1 - 3) := by
  unfold geom_Zones
  rw [good_val, decide_eq_true h]
  obtain ⟨_, _, h1, h2, _⟩ := h
  show some _ = _
  rw [w64 (n := a1 - 2) (by omega) (by omega), w64 (by omega) (by omega)]
  congr 1; omega
theorem zones_no (k : Nat) (h : ¬ GG a0 a1 a2 a3 a4) : geom_Zones k a0 a1 a2 a3 a4 = some 0 := by
  unfold geom_Zones
  rw [good_val, decide_eq_false h]; rfl
theorem cap_yes (k : Nat) (h : GG a0 a1 a2 a3 a4) : geom_Capacity k a0 a1 a2 a3 a4 = some ((a0 - 1) * a2) := by
  unfold geom_Capacity
  rw [good_val, decide_eq_true h]
  have hb := cap_bound h
  obtain ⟨h1, h2, _⟩ := h
  show some _ = _
  rw [w64 (n := a0 - 1) (by omega) (by omega), w64 (by omega) (by omega)]
theorem cap_no (k : Nat) (h : ¬ GG a0 a1 a2 a3 a4) : geom_Capacity k a0 a1 a2 a3 a4 = some 0 := by
  unfold geom_Capacity
  rw [good_val, decide_eq_false h]; rfl
theorem there_yes (k : Nat) (h : GG a0 a1 a2 a3 a4) (z r : Int) : geom_there k a0 a1 a2 a3 a4 z r = some (decide (0 ≤ z ∧ z < a1 - 3 ∧ 0 ≤ r ∧ r < a2)) := by
  unfold geom_there
  rw [zones_yes k h]
  obtain ⟨h1, h2, h3, h4, h5, h6, _⟩ := h
  simp only [optb, within_val]
  rw [w64 (n := a1 - 3 - 1) (by omega) (by omega), w64 (n := a2 - 1) (by omega) (by omega)]
  by_cases h7 : 0 ≤ z ∧ z ≤ a1 - 3 - 1
  · rw [decide_eq_true h7]
    simp only [cond_true, Option.some.injEq, decide_eq_decide]
    omega
  · rw [decide_eq_false h7, decide_eq_false (show ¬ (0 ≤ z ∧ z < a1 - 3 ∧ 0 ≤ r ∧ r < a2) by omega)]; rfl
theorem there_no (k : Nat) (h : ¬ GG a0 a1 a2 a3 a4) (z r : Int) : geom_there k a0 a1 a2 a3 a4 z r = some false := by
  unfold geom_there
  rw [zones_no k h]
  simp only [optb, within_val]
  have : wrap64 (0 - 1) = -1 := by kernel_rfl
  rw [this, decide_eq_false (by omega)]; rfl
end
/-! ### loops over whole numbers -/
noncomputable def dc (P : Prop) : Bool := @decide P (Classical.propDecidable P)
theorem dc_t {P : Prop} (h : P) : dc P = true := @decide_eq_true P (Classical.propDecidable P) h
theorem dc_f {P : Prop} (h : ¬ P) : dc P = false := @decide_eq_false P (Classical.propDecidable P) h
theorem dc_iff {P : Prop} : dc P = true ↔ P := ⟨fun h => @of_decide_eq_true P (Classical.propDecidable P) h, dc_t⟩
theorem dc_congr {P Q : Prop} (h : P ↔ Q) : dc P = dc Q := by rw [propext h]
theorem dc_dec {P : Prop} [Decidable P] : decide P = dc P := by
  by_cases h : P
  · rw [decide_eq_true h, dc_t h]
  · rw [decide_eq_false h, dc_f h]
theorem dc_and (P Q : Prop) : (dc P && dc Q) = dc (P ∧ Q) := by
  by_cases h : P
  · by_cases h2 : Q
    · rw [dc_t h, dc_t h2, dc_t ⟨h, h2⟩]; rfl
    · rw [dc_f h2, dc_f (fun x : P ∧ Q => h2 x.2), Bool.and_false]
  · rw [dc_f h, dc_f (fun x : P ∧ Q => h x.1)]; rfl
/-- up to the first number without `P` -/
theorem loopUp {R : Type} (f : Nat → Int → Option R) (lo to : Int) (P : Int → Prop) (yes : Option R) (no : Int → Option R)
    (hs : ∀ j i, lo ≤ i → i < to → P i → f (j + 1) i = f j (i + 1)) (hn : ∀ j i, lo ≤ i → i < to → ¬ P i → f (j + 1) i = no i) (he : ∀ j i, lo ≤ i → to ≤ i → f (j + 1) i = yes) :
    ∀ n j i, lo ≤ i → (to - i).toNat = n → n < j → ((∀ q, i ≤ q → q < to → P q) ∧ f j i = yes) ∨ (∃ q, i ≤ q ∧ q < to ∧ ¬ P q ∧ (∀ u, i ≤ u → u < q → P u) ∧ f j i = no q) := by
  intro n
  induction n with
  | zero =>
    intro j i hl h hj
    obtain ⟨j, rfl⟩ : ∃ u, j = u + 1 := ⟨j - 1, by omega⟩
    exact .inl ⟨fun q h1 h2 => absurd h2 (by omega), he j i hl (by omega)⟩
  | succ n ih =>
    intro j i hl h hj
    obtain ⟨j, rfl⟩ : ∃ u, j = u + 1 := ⟨j - 1, by omega⟩
    by_cases hp : P i
    · rw [hs j i hl (by omega) hp]
      rcases ih j (i + 1) (by omega) (by omega) (by omega) with ⟨h1, h2⟩ | ⟨q, h1, h2, h3, h4, h5⟩
      · refine .inl ⟨fun q h3 h4 => ?_, h2⟩
        by_cases e : q = i
        · rw [e]; exact hp
        · exact h1 q (by omega) h4
      · refine .inr ⟨q, by omega, h2, h3, fun u h6 h7 => ?_, h5⟩
        by_cases e : u = i
        · rw [e]; exact hp
        · exact h4 u (by omega) h7
    · exact .inr ⟨i, by omega, by omega, hp, fun u h1 h2 => absurd h2 (by omega), hn j i hl (by omega) hp⟩
/-- the same, for a loop that ends where it should -/
theorem loopTo {R : Type} (f : Nat → Int → Option R) (lo to : Int) (P : Int → Prop) (yes : Option R) (no : Int → Option R)
    (hs : ∀ j i, lo ≤ i → i < to → P i → f (j + 1) i = f j (i + 1)) (hn : ∀ j i, lo ≤ i → i < to → ¬ P i → f (j + 1) i = no i) (he : ∀ j, f (j + 1) to = yes) :
    ∀ n j i, lo ≤ i → i ≤ to → (to - i).toNat = n → n < j → ((∀ q, i ≤ q → q < to → P q) ∧ f j i = yes) ∨ (∃ q, i ≤ q ∧ q < to ∧ ¬ P q ∧ (∀ u, i ≤ u → u < q → P u) ∧ f j i = no q) := by
  intro n
  induction n with
  | zero =>
    intro j i hl hle h hj
    obtain ⟨j, rfl⟩ : ∃ u, j = u + 1 := ⟨j - 1, by omega⟩
    exact .inl ⟨fun q h1 h2 => absurd h2 (by omega), by rw [show i = to by omega]; exact he j⟩
  | succ n ih =>
    intro j i hl hle h hj
    obtain ⟨j, rfl⟩ : ∃ u, j = u + 1 := ⟨j - 1, by omega⟩
    by_cases hp : P i
    · rw [hs j i hl (by omega) hp]
      rcases ih j (i + 1) (by omega) (by omega) (by omega) (by omega) with ⟨h1, h2⟩ | ⟨q, h1, h2, h3, h4, h5⟩
      · refine .inl ⟨fun q h3 h4 => ?_, h2⟩
        by_cases e : q = i
        · rw [e]; exact hp
        · exact h1 q (by omega) h4
      · refine .inr ⟨q, by omega, h2, h3, fun u h6 h7 => ?_, h5⟩
        by_cases e : u = i
        · rw [e]; exact hp
        · exact h4 u (by omega) h7
    · exact .inr ⟨i, by omega, by omega, hp, fun u h1 h2 => absurd h2 (by omega), hn j i hl (by omega) hp⟩
theorem loopAll {R : Type} (f : Nat → Int → Option R) (lo to : Int) (P : Int → Prop) (yes no : Option R)
    (hs : ∀ j i, lo ≤ i → i < to → P i → f (j + 1) i = f j (i + 1)) (hn : ∀ j i, lo ≤ i → i < to → ¬ P i → f (j + 1) i = no) (he : ∀ j i, lo ≤ i → to ≤ i → f (j + 1) i = yes)
    (j : Nat) (i : Int) (hl : lo ≤ i) (hj : (to - i).toNat < j) : f j i = bif dc (∀ q, i ≤ q → q < to → P q) then yes else no := by
  rcases loopUp f lo to P yes (fun _ => no) hs hn he _ j i hl rfl hj with ⟨h1, h2⟩ | ⟨q, h1, h2, h3, _, h5⟩
  · rw [dc_t h1, h2]; rfl
  · rw [dc_f (fun h => h3 (h q h1 h2)), h5]; rfl
/-- the last number below `n` with `P` -/
noncomputable def lastI (P : Int → Prop) : Nat → Int
  | 0 => -1
  | n + 1 => bif dc (P n) then n else lastI P n
theorem lastI_lt (P : Int → Prop) (n : Nat) : -1 ≤ lastI P n ∧ lastI P n < n := by
  induction n with
  | zero => exact ⟨Int.le_refl (-1), by show (-1 : Int) < 0; decide⟩
  | succ n ih =>
    unfold lastI
    cases dc (P n) with
    | true => rw [cond_true]; omega
    | false => rw [cond_false]; omega
theorem lastI_yes (P : Int → Prop) (n : Nat) (h : 0 ≤ lastI P n) : P (lastI P n) := by
  induction n with
  | zero => exact absurd (show (0 : Int) ≤ -1 from h) (by decide)
  | succ n ih =>
    unfold lastI at h ⊢
    by_cases hp : P n
    · rw [dc_t hp]; exact hp
    · rw [dc_f hp] at h ⊢; exact ih h
theorem lastI_no (P : Int → Prop) (n : Nat) : 0 ≤ lastI P n ↔ ∃ q : Nat, q < n ∧ P q := by
  induction n with
  | zero => exact ⟨fun h => absurd (show (0 : Int) ≤ -1 from h) (by decide), fun ⟨q, h, _⟩ => absurd h (by omega)⟩
  | succ n ih =>
    unfold lastI
    by_cases hp : P n
    · rw [dc_t hp]; exact ⟨fun _ => ⟨n, by omega, hp⟩, fun _ => by rw [cond_true]; omega⟩
    · rw [dc_f hp, cond_false, ih]
      refine ⟨fun ⟨q, h1, h2⟩ => ⟨q, by omega, h2⟩, fun ⟨q, h1, h2⟩ => ⟨q, ?_, h2⟩⟩
      by_cases e : q = n
      · rw [e] at h2; exact absurd h2 hp
      · omega
theorem lastI_congr {P Q : Int → Prop} (n : Nat) (h : ∀ q : Nat, q < n → (P q ↔ Q q)) : lastI P n = lastI Q n := by
  induction n with
  | zero => rfl
  | succ n ih => unfold lastI; rw [dc_congr (h n (by omega)), ih (fun q hq => h q (by omega))]
theorem loopDown {R : Type} (f : Nat → Int → Option R) (N : Nat) (P : Int → Prop) (yes : Int → Option R) (no : Option R)
    (hy : ∀ j (i : Nat), i < N → P i → f (j + 1) i = yes i) (hn : ∀ j (i : Nat), i < N → ¬ P i → f (j + 1) i = f j (i - 1)) (he : ∀ j, f (j + 1) (-1) = no) :
    ∀ n j, n ≤ N → n < j → f j (n - 1) = bif decide (0 ≤ lastI P n) then yes (lastI P n) else no := by
  intro n
  induction n with
  | zero =>
    intro j _ hj
    obtain ⟨j, rfl⟩ : ∃ u, j = u + 1 := ⟨j - 1, by omega⟩
    exact he j
  | succ n ih =>
    intro j hN hj
    obtain ⟨j, rfl⟩ : ∃ u, j = u + 1 := ⟨j - 1, by omega⟩
    rw [show ((n + 1 : Nat) : Int) - 1 = (n : Int) by omega]
    unfold lastI
    by_cases hp : P n
    · rw [hy j n (by omega) hp, dc_t hp, cond_true, decide_eq_true (by omega)]; rfl
    · rw [hn j n (by omega) hp, dc_f hp, cond_false]; exact ih j (by omega) (by omega)
/-- a state that is carried along -/
def foldI {S : Type} (g : Int → S → S) : Nat → Int → S → S
  | 0, _, s => s
  | n + 1, i, s => foldI g n (i + 1) (g i s)
theorem loopFold {R S : Type} (f : Nat → S → Int → Option R) (lo to : Int) (g : Int → S → S) (e : S → Option R)
    (hs : ∀ j s i, lo ≤ i → i < to → f (j + 1) s i = f j (g i s) (i + 1)) (he : ∀ j s i, lo ≤ i → to ≤ i → f (j + 1) s i = e s) :
    ∀ n j s i, lo ≤ i → (to - i).toNat = n → n < j → f j s i = e (foldI g n i s) := by
  intro n
  induction n with
  | zero =>
    intro j s i hl h hj
    obtain ⟨j, rfl⟩ : ∃ u, j = u + 1 := ⟨j - 1, by omega⟩
    exact he j s i hl (by omega)
  | succ n ih =>
    intro j s i hl h hj
    obtain ⟨j, rfl⟩ : ∃ u, j = u + 1 := ⟨j - 1, by omega⟩
    rw [hs j s i hl (by omega), ih j _ _ (by omega) (by omega) (by omega)]; rfl
theorem foldI_and (P : Int → Prop) : ∀ n i a, foldI (fun i a => a && dc (P i)) n i a = (a && dc (∀ q, i ≤ q → q < i + (n : Nat) → P q)) := by
  intro n
  induction n with
  | zero => intro i a; rw [dc_t (fun q h1 h2 => absurd h2 (by omega)), Bool.and_true]; rfl
  | succ n ih =>
    intro i a
    show foldI _ n (i + 1) (a && dc (P i)) = _
    rw [ih, Bool.and_assoc, dc_and]
    congr 1
    refine dc_congr ⟨fun ⟨h, h'⟩ q h1 h2 => ?_, fun h => ⟨h i (by omega) (by omega), fun q h1 h2 => h q (by omega) (by omega)⟩⟩
    by_cases e : q = i
    · rw [e]; exact h
    · exact h' q (by omega) (by omega)
theorem foldI_snoc {S : Type} (g : Int → S → S) : ∀ n i s, foldI g (n + 1) i s = g (i + (n : Nat)) (foldI g n i s) := by
  intro n
  induction n with
  | zero => intro i s; show g i s = g (i + 0) s; rw [Int.add_zero]
  | succ n ih =>
    intro i s
    show foldI g (n + 1) (i + 1) (g i s) = _
    rw [ih]
    show g (i + 1 + (n : Nat)) _ = g (i + ((n + 1 : Nat) : Int)) (foldI g n (i + 1) (g i s))
    congr 1; omega
theorem foldI_last (P : Int → Prop) (n : Nat) : foldI (fun i a => bif dc (P i) then i else a) n 0 (-1) = lastI P n := by
  induction n with
  | zero => rfl
  | succ n ih => rw [foldI_snoc, ih]; show _ = (bif dc (P n) then (n : Int) else lastI P n); rw [Int.zero_add]
/-! ### reading a list -/
def lat (L : List Int) (q : Int) : Int := L.getD q.toNat 0
theorem lat_some {L : List Int} {q : Int} (h0 : 0 ≤ q) (h1 : q < L.length) : L[q.toNat]? = some (lat L q) := by
  have h : q.toNat < L.length := by omega
  unfold lat
  rw [List.getD_eq_getElem?_getD, List.getElem?_eq_getElem h]; rfl
theorem lat_wf {L : List Int} {b : Bool} (h : Ty.wf (.sl (.int .i64)) (b, L)) (q : Int) (h0 : 0 ≤ q) (h1 : q < L.length) : -9223372036854775808 ≤ lat L q ∧ lat L q ≤ 9223372036854775807 := by
  have hm : lat L q ∈ L := by
    have h : q.toNat < L.length := by omega
    unfold lat
    rw [List.getD_eq_getElem?_getD, List.getElem?_eq_getElem h]; exact List.getElem_mem h
  exact wf_i64 (h.2.2 _ hm)
/-! ### where a block lies -/
def sl (d z r p : Int) : Int := ((z + r) % d + 1 + p) % d
theorem sl_lt {d : Int} (hd : 0 < d) (z r p : Int) : 0 ≤ sl d z r p ∧ sl d z r p < d := ⟨Int.emod_nonneg _ (by omega), Int.emod_lt_of_pos _ hd⟩
section
variable {a0 a1 a2 a3 a4 : Int}
theorem par_yes (k : Nat) (h : GG a0 a1 a2 a3 a4) {z r : Int} (t : 0 ≤ z ∧ z < a1 - 3 ∧ 0 ≤ r ∧ r < a2) : geom_Parity k a0 a1 a2 a3 a4 z r = some ((z + r) % a0) := by
  unfold geom_Parity
  rw [there_yes k h, decide_eq_true t]
  obtain ⟨h1, h2, h3, h4, h5, h6, _⟩ := h
  simp only [optb, Bool.not_true, cond_false]
  rw [decide_eq_false (show ¬ a0 = 0 by omega), cond_false, w64 (by omega) (by omega), tmod_pos (by omega)]
theorem block_row {d b rows : Int} (hd : 3 ≤ d) (hb : 0 ≤ b) (hc : b < (d - 1) * rows) : 0 ≤ b / (d - 1) ∧ b / (d - 1) < rows ∧ 0 ≤ b % (d - 1) ∧ b % (d - 1) < d - 1 := by
  refine ⟨Int.ediv_nonneg hb (by omega), Int.ediv_lt_of_lt_mul (by omega) ?_, Int.emod_nonneg _ (by omega), Int.emod_lt_of_pos _ (by omega)⟩
  rw [Int.mul_comm]; exact hc
theorem slot_par (k : Nat) (h : GG a0 a1 a2 a3 a4) {z r : Int} (t : 0 ≤ z ∧ z < a1 - 3 ∧ 0 ≤ r ∧ r < a2) {p : Int} (p0 : -1 ≤ p) (p1 : p < 1000) : Int.tmod (wrap64 (wrap64 ((z + r) % a0 + 1) + p)) a0 = sl a0 z r p := by
  obtain ⟨h1, h2, h3, h4, h5, h6, _⟩ := h
  have e0 := Int.emod_nonneg (z + r) (show a0 ≠ 0 by omega)
  have e1 := Int.emod_lt_of_pos (z + r) (show 0 < a0 by omega)
  rw [w64 (n := (z + r) % a0 + 1) (by omega) (by omega), w64 (by omega) (by omega), tmod_pos (by omega)]; rfl
end
/-! ### spots and lengths -/
theorem div_step {n c : Int} (hc : 0 < c) (h0 : 0 ≤ n) : (n % c + 1 < c ∧ (n + 1) / c = n / c ∧ (n + 1) % c = n % c + 1) ∨ (n % c + 1 = c ∧ (n + 1) / c = n / c + 1 ∧ (n + 1) % c = 0) := by
  have h1 := Int.emod_add_mul_ediv n c
  have h2 := Int.emod_nonneg n (show c ≠ 0 by omega)
  have h3 := Int.emod_lt_of_pos n hc
  rcases Int.lt_or_le (n % c + 1) c with hlt | hge
  · refine .inl ⟨hlt, ?_, ?_⟩
    · have e : n + 1 = (n % c + 1) + (n / c) * c := by rw [Int.mul_comm (n / c)]; omega
      rw [e, Int.add_mul_ediv_right _ _ (by omega), Int.ediv_eq_zero_of_lt (by omega) hlt]; omega
    · have e : n + 1 = (n % c + 1) + c * (n / c) := by omega
      conv => lhs; rw [e]
      rw [Int.add_mul_emod_self_left]; exact Int.emod_eq_of_lt (by omega) hlt
  · refine .inr ⟨by omega, ?_, ?_⟩
    · have e : n + 1 = 0 + (n / c + 1) * c := by rw [Int.add_mul, Int.one_mul, Int.mul_comm (n / c)]; omega
      rw [e, Int.add_mul_ediv_right _ _ (by omega)]; simp
    · have e : n + 1 = 0 + c * (n / c + 1) := by rw [Int.mul_add, Int.mul_one]; omega
      rw [e, Int.add_mul_emod_self_left]; simp

abbrev slotOf (d zone row k : Int) : Int := sl d zone row k
/-! ### what lies at a spot -/
def kOf (d p drive : Int) : Int := if p < drive then drive - p - 1 else drive - p - 1 + d
def sOf (d p k : Int) : Int := if p + 1 + k < d then p + 1 + k else p + 1 + k - d
theorem kOf_mod {d p drive : Int} (h0 : 0 ≤ p) (h1 : p < d) (h2 : 0 ≤ drive) (h3 : drive < d) (h4 : drive ≠ p) : (drive - p - 1 + d) % d = kOf d p drive := by
  unfold kOf
  split
  · rw [Int.add_emod_right]; exact Int.emod_eq_of_lt (by omega) (by omega)
  · exact Int.emod_eq_of_lt (by omega) (by omega)
theorem kOf_range {d p drive : Int} (h0 : 0 ≤ p) (h1 : p < d) (h2 : 0 ≤ drive) (h3 : drive < d) (h4 : drive ≠ p) : 0 ≤ kOf d p drive ∧ kOf d p drive ≤ d - 2 := by
  unfold kOf; split <;> omega
theorem sOf_mod {d p k : Int} (h0 : 0 ≤ p) (h1 : p < d) (h2 : 0 ≤ k) (h3 : k ≤ d - 2) : (p + 1 + k) % d = sOf d p k := by
  unfold sOf
  split
  · exact Int.emod_eq_of_lt (by omega) (by omega)
  · rw [show p + 1 + k = (p + 1 + k - d) + d by omega, Int.add_emod_right, show p + 1 + k - d + d - d = p + 1 + k - d by omega]; exact Int.emod_eq_of_lt (by omega) (by omega)
theorem sOf_range {d p k : Int} (h0 : 0 ≤ p) (h1 : p < d) (h2 : 0 ≤ k) (h3 : k ≤ d - 2) : 0 ≤ sOf d p k ∧ sOf d p k < d ∧ sOf d p k ≠ p := by
  unfold sOf; split <;> omega
theorem sOf_kOf {d p drive : Int} (h0 : 0 ≤ p) (h1 : p < d) (h2 : 0 ≤ drive) (h3 : drive < d) (h4 : drive ≠ p) : sOf d p (kOf d p drive) = drive := by
  unfold sOf kOf; split <;> split <;> omega
theorem kOf_sOf {d p k : Int} (h0 : 0 ≤ p) (h1 : p < d) (h2 : 0 ≤ k) (h3 : k ≤ d - 2) : kOf d p (sOf d p k) = k := by
  unfold sOf kOf; split <;> split <;> omega
theorem par_range (d zone row : Int) (hd : 3 ≤ d) : 0 ≤ (zone + row) % d ∧ (zone + row) % d < d := ⟨Int.emod_nonneg _ (by omega), Int.emod_lt_of_pos _ (by omega)⟩

theorem slotOf_eq {d zone row k : Int} (hd : 3 ≤ d) (h2 : 0 ≤ k) (h3 : k ≤ d - 2) : slotOf d zone row k = sOf d ((zone + row) % d) k :=
  sOf_mod (par_range d zone row hd).1 (par_range d zone row hd).2 h2 h3

theorem mul_row {d b row : Int} (hd : 3 ≤ d) (h0 : 0 ≤ row) (h1 : row ≤ b - 1) : 0 ≤ row * (d - 1) ∧ row * (d - 1) ≤ (d - 1) * b - (d - 1) := by
  refine ⟨Int.mul_nonneg h0 (by omega), ?_⟩
  have := Int.mul_le_mul_of_nonneg_right h1 (show 0 ≤ d - 1 by omega)
  rw [Int.sub_mul, Int.one_mul, Int.mul_comm b] at this
  exact this
theorem row_div {d row k : Int} (hd : 3 ≤ d) (h2 : 0 ≤ k) (h3 : k ≤ d - 2) : (row * (d - 1) + k) / (d - 1) = row ∧ (row * (d - 1) + k) % (d - 1) = k := by
  constructor
  · rw [Int.add_comm, Int.add_mul_ediv_right _ _ (by omega), Int.ediv_eq_zero_of_lt h2 (by omega)]; omega
  · rw [Int.add_comm, Int.add_mul_emod_self_right]; exact Int.emod_eq_of_lt h2 (by omega)

/-! ### how many blocks a slot has of a zone -/
def lenV (d zone n s : Int) : Int := n / (d - 1) + (if s ≠ (zone + n / (d - 1)) % d ∧ kOf d ((zone + n / (d - 1)) % d) s < n % (d - 1) then 1 else 0)
theorem lenV_step {d zone n s : Int} (hd : 3 ≤ d) (hn : 0 ≤ n) (h0 : 0 ≤ s) (h1 : s < d) :
    lenV d zone (n + 1) s = lenV d zone n s + (if s = slotOf d zone (n / (d - 1)) (n % (d - 1)) then 1 else 0) + (if n % (d - 1) = d - 2 ∧ s = (zone + n / (d - 1)) % d then 1 else 0) := by
  have hp := par_range d zone (n / (d - 1)) hd
  have hm0 := Int.emod_nonneg n (show d - 1 ≠ 0 by omega)
  have hm1 := Int.emod_lt_of_pos n (show 0 < d - 1 by omega)
  have hs : slotOf d zone (n / (d - 1)) (n % (d - 1)) = sOf d ((zone + n / (d - 1)) % d) (n % (d - 1)) := slotOf_eq hd hm0 (by omega)
  have hsr := sOf_range hp.1 hp.2 hm0 (show n % (d - 1) ≤ d - 2 by omega)
  rw [hs]
  unfold lenV
  generalize hpp : (zone + n / (d - 1)) % d = p at hp hsr ⊢
  generalize hr : n % (d - 1) = r at hm0 hm1 hsr ⊢
  have hk : s ≠ p → (s = sOf d p r ↔ kOf d p s = r) := by
    intro hne
    constructor
    · rintro rfl; exact kOf_sOf hp.1 hp.2 hm0 (by omega)
    · rintro h; rw [← h]; exact (sOf_kOf hp.1 hp.2 h0 h1 hne).symm
  rcases div_step (n := n) (c := d - 1) (by omega) hn with ⟨e1, e2, e3⟩ | ⟨e1, e2, e3⟩
  · rw [e2, e3, hpp, hr]
    rw [hr] at e1
    by_cases hsp : s = p
    · subst hsp
      rw [if_neg (by omega), if_neg (by omega), if_neg (by omega), if_neg (by omega)]; omega
    · have hk2 := hk hsp
      by_cases hkr : kOf d p s < r
      · rw [if_pos ⟨hsp, by omega⟩, if_pos ⟨hsp, hkr⟩, if_neg (by omega), if_neg (by omega)]; omega
      · by_cases hke : kOf d p s = r
        · rw [if_pos ⟨hsp, by omega⟩, if_neg (by omega), if_pos (hk2.2 hke), if_neg (by omega)]; omega
        · rw [if_neg (by omega), if_neg (by omega), if_neg (fun h => hke (hk2.1 h)), if_neg (by omega)]; simp
  · rw [e2, e3]
    rw [hr] at e1
    have hnn : ¬ (s ≠ (zone + (n / (d - 1) + 1)) % d ∧ kOf d ((zone + (n / (d - 1) + 1)) % d) s < 0) := by
      rintro ⟨h2, h3⟩
      have hp' := par_range d zone (n / (d - 1) + 1) hd
      have := kOf_range hp'.1 hp'.2 h0 h1 h2
      omega
    rw [if_neg hnn]
    by_cases hsp : s = p
    · subst hsp
      rw [if_neg (by omega), if_neg (by omega), if_pos ⟨by omega, rfl⟩]; omega
    · have hk2 := hk hsp
      have hkr := kOf_range hp.1 hp.2 h0 h1 hsp
      by_cases hke : kOf d p s = r
      · rw [if_neg (by omega), if_pos (hk2.2 hke), if_neg (by omega)]; omega
      · rw [if_pos ⟨hsp, by omega⟩, if_neg (fun h => hke (hk2.1 h)), if_neg (by omega)]; omega
theorem lenV_zero {d zone s : Int} (hd : 3 ≤ d) (h0 : 0 ≤ s) (h1 : s < d) : lenV d zone 0 s = 0 := by
  unfold lenV
  have hp := par_range d zone (0 / (d - 1)) hd
  rw [if_neg]
  · simp
  · rintro ⟨h2, h3⟩
    have := kOf_range hp.1 hp.2 h0 h1 h2
    simp at h3
    simp at this
    omega
/-- What Lengths tells: one number a slot. -/
def lensL (d zone n : Int) : List Int := (List.range d.toNat).map fun s : Nat => lenV d zone n (s : Int)
theorem lensL_length {d : Int} (hd : 0 ≤ d) (zone n : Int) : ((lensL d zone n).length : Int) = d := by simp [lensL]; omega
theorem lensL_at {d zone n s : Int} (h0 : 0 ≤ s) (h1 : s < d) : lat (lensL d zone n) s = lenV d zone n s := by
  unfold lat lensL
  rw [List.getD_eq_getElem?_getD, List.getElem?_map, List.getElem?_range (by omega)]
  simp [show ((s.toNat : Nat) : Int) = s by omega]
theorem lat_ext {L M : List Int} (hl : L.length = M.length) (h : ∀ q : Int, 0 ≤ q → q < L.length → lat L q = lat M q) : L = M := by
  apply List.ext_getElem hl
  intro i h1 h2
  have := h i (by omega) (by omega)
  unfold lat at this
  rw [Int.toNat_natCast, List.getD_eq_getElem?_getD, List.getD_eq_getElem?_getD, List.getElem?_eq_getElem h1, List.getElem?_eq_getElem h2] at this
  exact this
theorem lat_set {L : List Int} {i : Int} (h0 : 0 ≤ i) (hi : i < L.length) (v : Int) {q : Int} (hq : 0 ≤ q) : lat (L.set i.toNat v) q = if q = i then v else lat L q := by
  unfold lat
  rw [List.getD_eq_getElem?_getD, List.getD_eq_getElem?_getD, List.getElem?_set]
  by_cases e : q = i
  · rw [if_pos e, if_pos (by omega), if_pos (by omega)]; rfl
  · rw [if_neg e, if_neg (by omega)]
theorem lat_rep (n : Nat) (q : Int) : lat (List.replicate n 0) q = 0 := by
  unfold lat
  rw [List.getD_eq_getElem?_getD, List.getElem?_replicate]
  split <;> rfl
theorem lenV_bounds {a0 a1 a2 a3 a4 : Int} (h : GG a0 a1 a2 a3 a4) {zone n s : Int} (hn0 : 0 ≤ n) (hn1 : n ≤ (a0 - 1) * a2) (h0 : 0 ≤ s) (h1 : s < a0) :
    0 ≤ n / (a0 - 1) ∧ n / (a0 - 1) ≤ lenV a0 zone n s ∧ lenV a0 zone n s ≤ n / (a0 - 1) + 1 ∧ lenV a0 zone n s ≤ a2 ∧ n / (a0 - 1) ≤ a2 := by
  have hg : 3 ≤ a0 ∧ a2 ≤ 256 := ⟨h.1, h.2.2.2.2.2.1⟩
  have hp := par_range a0 zone (n / (a0 - 1)) hg.1
  have hq0 := Int.ediv_nonneg hn0 (show 0 ≤ a0 - 1 by omega)
  have hb : n / (a0 - 1) ≤ a2 := by
    have := Int.ediv_le_ediv (show 0 < a0 - 1 by omega) hn1
    rwa [Int.mul_ediv_cancel_left _ (by omega)] at this
  have hm0 := Int.emod_nonneg n (show a0 - 1 ≠ 0 by omega)
  have hdm := Int.emod_add_mul_ediv n (a0 - 1)
  unfold lenV
  by_cases hc : s ≠ (zone + n / (a0 - 1)) % a0 ∧ kOf a0 ((zone + n / (a0 - 1)) % a0) s < n % (a0 - 1)
  · rw [if_pos hc]
    have hk := kOf_range hp.1 hp.2 h0 h1 hc.1
    have : n / (a0 - 1) ≠ a2 := by
      intro e
      rw [e] at hdm
      omega
    omega
  · rw [if_neg hc]; omega
/-! ### what a spot holds, and what Lengths says -/
section
variable {a0 a1 a2 a3 a4 : Int}
theorem par_out (k : Nat) {z r : Int} (t : ¬ (GG a0 a1 a2 a3 a4 ∧ 0 ≤ z ∧ z < a1 - 3 ∧ 0 ≤ r ∧ r < a2)) : geom_Parity k a0 a1 a2 a3 a4 z r = some (-1) := by
  unfold geom_Parity
  by_cases g : GG a0 a1 a2 a3 a4
  · rw [there_yes k g, decide_eq_false (fun x => t ⟨g, x⟩)]; rfl
  · rw [there_no k g]; rfl
theorem back_in (k : Nat) (g : GG a0 a1 a2 a3 a4) {z r s : Int} (t : 0 ≤ z ∧ z < a1 - 3 ∧ 0 ≤ r ∧ r < a2) (s0 : 0 ≤ s) (s1 : s < a0) (h : s ≠ (z + r) % a0) :
    geom_Back k a0 a1 a2 a3 a4 z r s = some (r * (a0 - 1) + kOf a0 ((z + r) % a0) s, true) := by
  have g' := g
  obtain ⟨h1, h2, h3, h4, h5, h6, _⟩ := g'
  have hp := par_range a0 z r h1
  have hk := kOf_range hp.1 hp.2 s0 s1 h
  have hm := mul_row (d := a0) (b := a2) (row := r) h1 t.2.2.1 (by omega)
  have hc := cap_bound g
  unfold geom_Back
  rw [par_yes k g t]
  simp only [optb]
  rw [decide_eq_false (show ¬ (z + r) % a0 < 0 by omega), cond_false, decide_eq_false (show ¬ (z + r) % a0 = s from fun x => h x.symm), cond_false, within_val]
  simp only [optb]
  rw [w64 (n := a0 - 1) (by omega) (by omega), decide_eq_true (show 0 ≤ s ∧ s ≤ a0 - 1 by omega)]
  simp only [Bool.not_true, geom_Back_j0, geom_Back_k1, geom_Back_j1, cond_false]
  rw [decide_eq_false (show ¬ a0 = 0 by omega), cond_false, w64 (n := a0 - 1) (by omega) (by omega), w64 (n := s - (z + r) % a0) (by omega) (by omega), w64 (n := s - (z + r) % a0 - 1) (by omega) (by omega), w64 (n := s - (z + r) % a0 - 1 + a0) (by omega) (by omega), tmod_pos (by omega), kOf_mod hp.1 hp.2 s0 s1 h, w64 (n := r * (a0 - 1)) (by omega) (by omega), w64 (by omega) (by omega)]
theorem back_par (k : Nat) (g : GG a0 a1 a2 a3 a4) {z r : Int} (t : 0 ≤ z ∧ z < a1 - 3 ∧ 0 ≤ r ∧ r < a2) : geom_Back k a0 a1 a2 a3 a4 z r ((z + r) % a0) = some (0, false) := by
  have hp := par_range a0 z r g.1
  unfold geom_Back
  rw [par_yes k g t]
  simp only [optb, decide_true, cond_true]
  rw [decide_eq_false (show ¬ (z + r) % a0 < 0 by omega)]; rfl
theorem back_out (k : Nat) {z r : Int} (t : ¬ (GG a0 a1 a2 a3 a4 ∧ 0 ≤ z ∧ z < a1 - 3 ∧ 0 ≤ r ∧ r < a2)) (s : Int) : geom_Back k a0 a1 a2 a3 a4 z r s = some (0, false) := by
  unfold geom_Back
  rw [par_out k t]; rfl
theorem back_lt (k : Nat) (g : GG a0 a1 a2 a3 a4) {z n s : Int} (z0 : 0 ≤ z) (z1 : z < a1 - 3) (n0 : 0 ≤ n) (n1 : n ≤ (a0 - 1) * a2) (s0 : 0 ≤ s) (s1 : s < a0) :
    ∃ x, geom_Back k a0 a1 a2 a3 a4 z (n / (a0 - 1)) s = some x ∧ (lenV a0 z n s = if x.2 = true ∧ x.1 < n then n / (a0 - 1) + 1 else n / (a0 - 1)) := by
  have h1 := g.1
  have hp := par_range a0 z (n / (a0 - 1)) (by omega)
  have hm0 := Int.emod_nonneg n (show a0 - 1 ≠ 0 by omega)
  have hdm := Int.emod_add_mul_ediv n (a0 - 1)
  have hb := (lenV_bounds g (zone := z) n0 n1 s0 s1)
  rw [Int.mul_comm] at hdm
  unfold lenV
  by_cases hr : n / (a0 - 1) < a2
  · have t : 0 ≤ z ∧ z < a1 - 3 ∧ 0 ≤ n / (a0 - 1) ∧ n / (a0 - 1) < a2 := ⟨z0, z1, hb.1, hr⟩
    by_cases hs : s = (z + n / (a0 - 1)) % a0
    · refine ⟨_, by rw [hs]; exact back_par k g t, ?_⟩
      rw [if_neg (by omega), if_neg (by simp)]; omega
    · refine ⟨_, back_in k g t s0 s1 hs, ?_⟩
      by_cases hk : kOf a0 ((z + n / (a0 - 1)) % a0) s < n % (a0 - 1)
      · rw [if_pos ⟨hs, hk⟩, if_pos ⟨rfl, by simp only; omega⟩]
      · rw [if_neg (by omega), if_neg (by simp only; omega)]; omega
  · refine ⟨_, back_out k (fun x => hr x.2.2.2.2) s, ?_⟩
    have hm : n % (a0 - 1) = 0 := by
      have e : n / (a0 - 1) = a2 := by omega
      rw [e, Int.mul_comm] at hdm
      omega
    have hno : ¬ (s ≠ (z + n / (a0 - 1)) % a0 ∧ kOf a0 ((z + n / (a0 - 1)) % a0) s < n % (a0 - 1)) := by
      rintro ⟨h2, h3⟩
      have := kOf_range hp.1 hp.2 s0 s1 h2
      omega
    rw [if_neg hno, if_neg (by simp)]; omega
theorem lengths_loop {R : Type} (e0 : List Int → Option R) (k : Nat) (g : GG a0 a1 a2 a3 a4) {z n : Int} (z0 : 0 ≤ z) (z1 : z < a1 - 3) (n0 : 0 ≤ n) (n1 : n ≤ (a0 - 1) * a2) : ∀ (m j : Nat) (i : Int) (out : List Int), 0 ≤ i → i ≤ a0 → (a0 - i).toNat = m → m < j → (out.length : Int) = a0 → (∀ q, 0 ≤ q → q < i → lat out q = lenV a0 z n q) →
    plan_Lengths_l1 e0 k z n (n / (a0 - 1)) a0 a0 a1 a2 a3 a4 j i out = e0 (lensL a0 z n) := by
  have hd := g.2.1
  intro m
  induction m with
  | zero =>
    intro j i out i0 i1 hm hj hl hq
    obtain ⟨j, rfl⟩ : ∃ u, j = u + 1 := ⟨j - 1, by omega⟩
    rw [plan_Lengths_l1]; unfold plan_Lengths_l1s
    rw [decide_eq_false (by omega), cond_false]
    congr 1
    have h2 := lensL_length (d := a0) (by omega) z n
    refine lat_ext (by omega) (fun q q0 q1 => ?_)
    rw [lensL_at q0 (by omega)]; exact hq q q0 (by omega)
  | succ m ih =>
    intro j i out i0 i1 hm hj hl hq
    obtain ⟨j, rfl⟩ : ∃ u, j = u + 1 := ⟨j - 1, by omega⟩
    obtain ⟨x, hx, hv⟩ := back_lt k g z0 z1 n0 n1 i0 (show i < a0 by omega)
    have hb := lenV_bounds g (zone := z) n0 n1 i0 (show i < a0 by omega)
    have h6 := g.2.2.2.2.2.1
    rw [plan_Lengths_l1]; unfold plan_Lengths_l1s plan_Lengths_j2 plan_Lengths_k2 plan_Lengths_j3
    rw [decide_eq_true (show i < a0 by omega), cond_true, lenI_eq, decide_eq_true i0, decide_eq_true (show i < (out.length : Int) by omega), lat_some i0 (by omega)]
    simp only [Bool.and_self, cond_true, optb]
    rw [hx]
    simp only [lenI_eq]
    have hls : ((out.set i.toNat (n / (a0 - 1))).length : Int) = a0 := by rw [List.length_set]; exact hl
    have hw : wrap64 (i + 1) = i + 1 := w64 (by omega) (by omega)
    by_cases hc : x.2 = true ∧ x.1 < n
    · rw [if_pos hc] at hv
      rw [hc.1, decide_eq_true hc.2, cond_true, cond_true, decide_eq_true (show i < ((out.set i.toNat (n / (a0 - 1))).length : Int) by omega), lat_some i0 (by omega)]
      simp only [Bool.and_self, cond_true]
      have e1 : lat (out.set i.toNat (n / (a0 - 1))) i = n / (a0 - 1) := by rw [lat_set i0 (by omega) _ i0, if_pos rfl]
      rw [e1, hw, w64 (n := n / (a0 - 1) + 1) (by omega) (by omega)]
      refine ih j (i + 1) _ (by omega) (by omega) (by omega) (by omega) (by rw [List.length_set]; exact hls) (fun q q0 q1 => ?_)
      rw [lat_set i0 (by omega) _ q0]
      by_cases e : q = i
      · rw [if_pos e, e, hv]
      · rw [if_neg e, lat_set i0 (by omega) _ q0, if_neg e]; exact hq q q0 (by omega)
    · rw [if_neg hc] at hv
      have hgo : plan_Lengths_l1 e0 k z n (n / (a0 - 1)) a0 a0 a1 a2 a3 a4 j (i + 1) (out.set i.toNat (n / (a0 - 1))) = e0 (lensL a0 z n) := by
        refine ih j (i + 1) _ (by omega) (by omega) (by omega) (by omega) hls (fun q q0 q1 => ?_)
        rw [lat_set i0 (by omega) _ q0]
        by_cases e : q = i
        · rw [if_pos e, e, hv]
        · rw [if_neg e]; exact hq q q0 (by omega)
      cases h2 : x.2 with
      | true => rw [decide_eq_false (fun y => hc ⟨h2, y⟩), cond_true, cond_false, hw]; exact hgo
      | false => rw [cond_false, cond_false, hw]; exact hgo
def InZN (a0 a1 a2 z n : Int) : Prop := 0 ≤ z ∧ z < a1 - 3 ∧ 0 ≤ n ∧ n ≤ (a0 - 1) * a2
theorem lengths_in (k : Nat) (hk : 100 ≤ k) (g : GG a0 a1 a2 a3 a4) {z n : Int} (h : InZN a0 a1 a2 z n) : plan_Lengths k a0 a1 a2 a3 a4 z n = some (false, lensL a0 z n) := by
  obtain ⟨z0, z1, n0, n1⟩ := h
  have hd := g.1
  have hd' := g.2.1
  have hc := cap_bound g
  unfold plan_Lengths
  rw [good_val, decide_eq_true g, zones_yes k g, cap_yes k g]
  simp only [optb, Bool.not_true, cond_false]
  rw [decide_eq_false (show ¬ z < 0 by omega), cond_false, decide_eq_false (show ¬ a1 - 3 ≤ z by omega), cond_false, decide_eq_false (show ¬ n < 0 by omega), cond_false, decide_eq_false (show ¬ (a0 - 1) * a2 < n by omega)]
  simp only [plan_Lengths_j0, plan_Lengths_k1, cond_false]
  have hr := lenV_bounds g (zone := z) n0 n1 (Int.le_refl 0) (show 0 < a0 by omega)
  have h6 := g.2.2.2.2.2.1
  rw [decide_eq_true (show 0 ≤ a0 by omega), decide_eq_true (Int.le_refl a0), decide_eq_true (show a0 ≤ 1099511627776 by omega), w64 (n := a0 - 1) (by omega) (by omega), decide_eq_false (show ¬ a0 - 1 = 0 by omega), tdiv_pos n0, w64 (n := n / (a0 - 1)) (by omega) (by omega), lenI_eq, List.length_replicate, show ((a0.toNat : Nat) : Int) = a0 by omega]
  simp only [Bool.and_self, cond_true, cond_false]
  exact lengths_loop _ k g z0 z1 n0 n1 _ k 0 _ (Int.le_refl 0) (by omega) rfl (by omega) (by rw [List.length_replicate]; omega) (fun q q0 q1 => absurd q1 (by omega))
theorem lengths_out (k : Nat) {z n : Int} (h : ¬ (GG a0 a1 a2 a3 a4 ∧ InZN a0 a1 a2 z n)) : plan_Lengths k a0 a1 a2 a3 a4 z n = some (true, []) := by
  unfold plan_Lengths
  rw [good_val]
  by_cases g : GG a0 a1 a2 a3 a4
  · rw [decide_eq_true g, zones_yes k g, cap_yes k g]
    simp only [optb, Bool.not_true, cond_false]
    by_cases h1 : z < 0
    · rw [decide_eq_true h1]; rfl
    rw [decide_eq_false h1, cond_false]
    by_cases h2 : a1 - 3 ≤ z
    · rw [decide_eq_true h2]; rfl
    rw [decide_eq_false h2, cond_false]
    by_cases h3 : n < 0
    · rw [decide_eq_true h3]; rfl
    rw [decide_eq_false h3, cond_false, decide_eq_true (show (a0 - 1) * a2 < n by have : ¬ InZN a0 a1 a2 z n := fun x => h ⟨g, x⟩; unfold InZN at this; omega)]; rfl
  · rw [decide_eq_false g]; rfl
end
/-! ### what Decide says -/
noncomputable def moreV (W L : List Int) (m : Int) : Nat → List Int
  | 0 => []
  | n + 1 => bif dc ((n : Int) ≠ m ∧ lat W n < lat L n) then moreV W L m n ++ [(n : Int)] else moreV W L m n
theorem moreV_len (W L : List Int) (m : Int) (n : Nat) : (moreV W L m n).length ≤ n := by
  induction n with
  | zero => exact Nat.le_refl 0
  | succ n ih =>
    unfold moreV
    cases dc _ with
    | true => rw [cond_true, List.length_append, List.length_singleton]; omega
    | false => rw [cond_false]; omega
theorem moreV_mem (W L : List Int) (m : Int) (n : Nat) : ∀ x ∈ moreV W L m n, 0 ≤ x ∧ x < n ∧ x ≠ m ∧ lat W x < lat L x := by
  induction n with
  | zero => intro x h; exact absurd h List.not_mem_nil
  | succ n ih =>
    intro x h
    unfold moreV at h
    by_cases hc : (n : Int) ≠ m ∧ lat W n < lat L n
    · rw [dc_t hc, cond_true, List.mem_append, List.mem_singleton] at h
      rcases h with h | rfl
      · have := ih x h; exact ⟨this.1, by omega, this.2.2⟩
      · exact ⟨by omega, by omega, hc⟩
    · rw [dc_f hc, cond_false] at h
      have := ih x h; exact ⟨this.1, by omega, this.2.2⟩
theorem moreV_congr {W L W' L' : List Int} {m : Int} (n : Nat) (h : ∀ q : Nat, q < n → (q : Int) ≠ m → (lat W q < lat L q ↔ lat W' q < lat L' q)) : moreV W L m n = moreV W' L' m n := by
  induction n with
  | zero => rfl
  | succ n ih =>
    unfold moreV
    rw [ih (fun q hq => h q (by omega)), dc_congr (P := (n : Int) ≠ m ∧ lat W n < lat L n) (Q := (n : Int) ≠ m ∧ lat W' n < lat L' n) ⟨fun x => ⟨x.1, (h n (by omega) x.1).1 x.2⟩, fun x => ⟨x.1, (h n (by omega) x.1).2 x.2⟩⟩]
theorem moreV_nil {W L : List Int} {m : Int} (n : Nat) (h : ∀ q : Nat, q < n → (q : Int) ≠ m → ¬ lat W q < lat L q) : moreV W L m n = [] := by
  induction n with
  | zero => rfl
  | succ n ih => unfold moreV; rw [ih (fun q hq => h q (by omega)), dc_f (fun x => h n (by omega) x.1 x.2)]; rfl
def DecOK (a0 a1 a2 a3 a4 z n : Int) (L : List Int) (m : Int) : Prop := (GG a0 a1 a2 a3 a4 ∧ InZN a0 a1 a2 z n) ∧ (L.length : Int) = a0 ∧ -1 ≤ m ∧ m < a0 ∧ ∀ q : Int, 0 ≤ q → q < L.length → 0 ≤ lat L q ∧ lat L q ≤ a2
def OneLess (a0 z n : Int) (W L more less : List Int) : Prop := more = [] ∧ 0 ≤ n / (a0 - 1) - 1 ∧ ∃ s, less = [s] ∧ s = (z + (n / (a0 - 1) - 1)) % a0 ∧ lat L s = lat W s - 1
noncomputable def decV (a0 z n : Int) (W L more less : List Int) : Int × (Int × Int) :=
  bif dc (more = [] ∧ less = []) then (0, 0, 0) else bif decide (n = 0) then (3, 0, 0) else bif dc (OneLess a0 z n W L more less) then (1, less.headD 0, n / (a0 - 1) - 1) else (2, 0, 0)
section
variable {a0 a1 a2 a3 a4 : Int}
theorem dec_loop {R : Type} (e0 : List Int → List Int → Option R) (k : Nat) (m : Int) {L W : List Int} (hl : L.length ≤ 100) (hw : W.length = L.length) : ∀ (u j i : Nat), L.length - i = u → i ≤ L.length → u < j →
    mend_Decide_l1 e0 k m L L.length W j i (moreV W L m i) (moreV L W m i) = e0 (moreV W L m L.length) (moreV L W m L.length) := by
  intro u
  induction u with
  | zero =>
    intro j i hu hi hj
    obtain ⟨j, rfl⟩ : ∃ u, j = u + 1 := ⟨j - 1, by omega⟩
    rw [mend_Decide_l1]; unfold mend_Decide_l1s
    rw [decide_eq_false (by omega), cond_false, show i = L.length by omega]
  | succ u ih =>
    intro j i hu hi hj
    obtain ⟨j, rfl⟩ : ∃ u, j = u + 1 := ⟨j - 1, by omega⟩
    rw [← ih j (i + 1) (by omega) (by omega) (by omega)]
    rw [mend_Decide_l1]; unfold mend_Decide_l1s mend_Decide_j2 mend_Decide_j3 mend_Decide_k2
    have hi' : (i : Int) < L.length := by omega
    have h1 := moreV_len W L m i
    have h2 := moreV_len L W m i
    rw [decide_eq_true hi', decide_eq_true (show (0 : Int) ≤ i by omega), cond_true, cond_true, lat_some (by omega) hi', lenI_eq, decide_eq_true (show (i : Int) < W.length by omega), lat_some (L := W) (by omega) (by omega)]
    simp only [optb, Bool.and_self, cond_true, List.length_singleton]
    rw [decide_eq_true (show (moreV W L m i).length + 1 ≤ 1099511627776 by omega), decide_eq_true (show (moreV L W m i).length + 1 ≤ 1099511627776 by omega), w64 (by omega) (by omega)]
    show _ = mend_Decide_l1 e0 k m L L.length W j ((i + 1 : Nat) : Int) (bif dc ((i : Int) ≠ m ∧ lat W i < lat L i) then moreV W L m i ++ [(i : Int)] else moreV W L m i) (bif dc ((i : Int) ≠ m ∧ lat L i < lat W i) then moreV L W m i ++ [(i : Int)] else moreV L W m i)
    by_cases e : (i : Int) = m
    · rw [decide_eq_true e, dc_f (fun x => x.1 e), dc_f (fun x => x.1 e)]; rfl
    · rw [decide_eq_false e, cond_false]
      by_cases c1 : lat W i < lat L i
      · rw [decide_eq_true c1, dc_t ⟨e, c1⟩, dc_f (fun x => by have := x.2; omega)]; rfl
      · rw [decide_eq_false c1, dc_f (fun x => c1 x.2)]
        by_cases c2 : lat L i < lat W i
        · rw [decide_eq_true c2, dc_t ⟨e, c2⟩]; rfl
        · rw [decide_eq_false c2, dc_f (fun x => c2 x.2)]; rfl
theorem dec_end (k : Nat) (g : GG a0 a1 a2 a3 a4) {z n : Int} (hz : InZN a0 a1 a2 z n) {L W more less : List Int} (hL : (L.length : Int) = a0) (hW : (W.length : Int) = a0) (hm : more.length ≤ 20) (hs : less.length ≤ 20) (hms : ∀ x ∈ less, 0 ≤ x ∧ x < a0) (hwb : ∀ q : Int, 0 ≤ q → q < a0 → 0 ≤ lat W q ∧ lat W q ≤ 256) :
    (bif (decide ((wrap64 (a0 - (1 : Int))) = (0 : Int))) then none
      else bif (decide ((wrap64 ((lenI more) + (lenI less))) = (0 : Int))) then some (((0 : Int), ((0 : Int), (0 : Int))), (0 : Int))
      else mend_Decide_j4 (fun v va vb vc => some ((va, (vb, vc)), v)) (mend_Decide_j6 (fun v va vb vc => some ((va, (vb, vc)), v)) k) k z L (wrap64 ((wrap64 (Int.tdiv n (wrap64 (a0 - (1 : Int))))) - (1 : Int))) (decide (n = (0 : Int))) a0 a1 a2 a3 a4 W more less)
      = some (decV a0 z n W L more less, 0) := by
  obtain ⟨z0, z1, n0, n1⟩ := hz
  have h1 := g.1
  have h1' := g.2.1
  have h6 := g.2.2.2.2.2.1
  have hr := lenV_bounds g (zone := z) n0 n1 (Int.le_refl 0) (show 0 < a0 by omega)
  rw [w64 (n := a0 - 1) (by omega) (by omega), decide_eq_false (show ¬ a0 - 1 = 0 by omega), cond_false, lenI_eq, lenI_eq, w64 (n := (more.length : Int) + less.length) (by omega) (by omega), tdiv_pos n0, w64 (n := n / (a0 - 1)) (by omega) (by omega), w64 (n := n / (a0 - 1) - 1) (by omega) (by omega)]
  unfold decV
  by_cases c0 : more = [] ∧ less = []
  · obtain ⟨rfl, rfl⟩ := c0
    rw [dc_t ⟨rfl, rfl⟩]; rfl
  rw [dc_f c0, decide_eq_false (show ¬ (more.length : Int) + less.length = 0 from fun x => c0 ⟨List.length_eq_zero_iff.1 (by omega), List.length_eq_zero_iff.1 (by omega)⟩)]
  simp only [cond_false, mend_Decide_j4]
  by_cases c1 : n = 0
  · rw [decide_eq_true c1]; rfl
  rw [decide_eq_false c1]
  simp only [cond_false, lenI_eq, mend_Decide_j6, mend_Decide_k3, mend_Decide_k4]
  by_cases c2 : more = []
  · subst c2
    rw [List.length_nil, decide_eq_true (show ((0 : Nat) : Int) = 0 from rfl), cond_true]
    by_cases c3 : (less.length : Int) = 1
    · obtain ⟨s, rfl⟩ := List.length_eq_one_iff.1 (show less.length = 1 by omega)
      obtain ⟨s0, s1⟩ := hms s (List.mem_singleton.2 rfl)
      rw [List.length_singleton, decide_eq_true (show ((1 : Nat) : Int) = 1 from rfl), decide_eq_true (show (0 : Int) < ((1 : Nat) : Int) by decide), cond_true, cond_true]
      rw [show ([s] : List Int)[(0 : Int).toNat]? = some s from rfl]
      simp only [optb, cond_true]
      by_cases c4 : 0 ≤ n / (a0 - 1) - 1
      · rw [decide_eq_true c4, cond_true, par_yes k g ⟨z0, z1, c4, by omega⟩]
        simp only [optb]
        have hwl : -9223372036854775808 ≤ lat W s - 1 ∧ lat W s - 1 ≤ 9223372036854775807 := by have := hwb s s0 s1; omega
        by_cases c5 : s = (z + (n / (a0 - 1) - 1)) % a0
        · rw [decide_eq_true c5, cond_true, decide_eq_true s0, cond_true, lat_some (L := L) s0 (by omega)]
          simp only
          rw [decide_eq_true (show s < (W.length : Int) by omega), lat_some (L := W) s0 (by omega)]
          simp only [Bool.and_self, cond_true]
          rw [w64 hwl.1 hwl.2]
          by_cases c6 : lat L s = lat W s - 1
          · rw [decide_eq_true c6, dc_t (show OneLess a0 z n W L [] [s] from ⟨rfl, c4, s, rfl, c5, c6⟩)]; rfl
          · rw [decide_eq_false c6, dc_f (fun x : OneLess a0 z n W L [] [s] => by
              obtain ⟨_, _, t, ht, _, h⟩ := x
              rw [List.singleton_inj.1 ht] at c6
              exact c6 h)]; rfl
        · rw [decide_eq_false c5, dc_f (fun x : OneLess a0 z n W L [] [s] => by
              obtain ⟨_, _, t, ht, h, _⟩ := x
              rw [List.singleton_inj.1 ht] at c5
              exact c5 h)]; rfl
      · rw [decide_eq_false c4, dc_f (fun x : OneLess a0 z n W L [] [s] => c4 x.2.1)]; rfl
    · rw [decide_eq_false c3, dc_f (fun x : OneLess a0 z n W L [] less => by
        obtain ⟨_, _, t, rfl, _⟩ := x
        exact c3 rfl)]; rfl
  · rw [decide_eq_false (show ¬ (more.length : Int) = 0 from fun x => c2 (List.length_eq_zero_iff.1 (by omega))), dc_f (fun x : OneLess a0 z n W L more less => c2 x.1)]; rfl
theorem dec_in (k : Nat) (hk : 200 ≤ k) (la : Bool) (L : List Int) (m : Int) {z n : Int} (h : DecOK a0 a1 a2 a3 a4 z n L m) :
    mend_Decide k a0 a1 a2 a3 a4 z n la L m = some (decV a0 z n (lensL a0 z n) L (moreV (lensL a0 z n) L m L.length) (moreV L (lensL a0 z n) m L.length), 0) := by
  obtain ⟨⟨g, hz⟩, hl, m0, m1, hq⟩ := h
  have h1 := g.1
  have h1' := g.2.1
  have h6 := g.2.2.2.2.2.1
  unfold mend_Decide
  rw [lengths_in k (by omega) g hz]
  simp only [optb, Bool.false_and, cond_false, lenI_eq]
  rw [decide_eq_true hl, decide_eq_false (show ¬ m < -1 by omega), decide_eq_false (show ¬ a0 ≤ m by omega)]
  simp only [Bool.not_true, cond_false]
  have hwl := lensL_length (d := a0) (by omega) z n
  rw [loopAll (mend_Decide_i58_3_l0 _ _ k L L.length a2) 0 L.length (fun _ => True) _ none
    (fun j i i0 i1 hp => by
      rw [mend_Decide_i58_3_l0]; unfold mend_Decide_i58_3_l0s mend_Decide_i58_3_j1
      have := hq i i0 i1
      rw [decide_eq_true i1, decide_eq_true i0, cond_true, cond_true, lat_some i0 i1]
      simp only [optb]
      rw [decide_eq_false (show ¬ lat L i < 0 by omega), decide_eq_false (show ¬ a2 < lat L i by omega), cond_false, cond_false, w64 (by omega) (by omega)])
    (fun j i i0 i1 hp => absurd trivial hp)
    (fun j i i0 i1 => by
      rw [mend_Decide_i58_3_l0]; unfold mend_Decide_i58_3_l0s
      rw [decide_eq_false (by omega), cond_false]) k 0 (by omega) (by omega), dc_t (fun _ _ _ => trivial), cond_true]
  simp only [mend_Decide_j0, cond_false, mend_Decide_k1, lenI_eq]
  have hloop := dec_loop (fun more less => bif (decide ((wrap64 (a0 - (1 : Int))) = (0 : Int))) then none
      else bif (decide ((wrap64 ((lenI more) + (lenI less))) = (0 : Int))) then some (((0 : Int), ((0 : Int), (0 : Int))), (0 : Int))
      else mend_Decide_j4 (fun v va vb vc => some ((va, (vb, vc)), v)) (mend_Decide_j6 (fun v va vb vc => some ((va, (vb, vc)), v)) k) k z L (wrap64 ((wrap64 (Int.tdiv n (wrap64 (a0 - (1 : Int))))) - (1 : Int))) (decide (n = (0 : Int))) a0 a1 a2 a3 a4 (lensL a0 z n) more less) k m (L := L) (W := lensL a0 z n) (by omega) (by omega) L.length k 0 (by omega) (by omega) (by omega)
  have hx := moreV_len (lensL a0 z n) L m L.length
  have hy := moreV_len L (lensL a0 z n) m L.length
  have he := dec_end k g hz (W := lensL a0 z n) (more := moreV (lensL a0 z n) L m L.length) (less := moreV L (lensL a0 z n) m L.length) hl hwl (by omega) (by omega)
    (fun x hx => by have := moreV_mem L (lensL a0 z n) m L.length x hx; omega) (fun q q0 q1 => by
      rw [lensL_at q0 q1]
      have := lenV_bounds g (zone := z) hz.2.2.1 hz.2.2.2 q0 q1
      omega)
  simp only [lenI_eq] at hloop he
  exact hloop.trans he
end
theorem mod_in {x c : Int} (hx : -9223372036854775808 ≤ x ∧ x ≤ 9223372036854775807) (c0 : 0 < c) (c1 : c ≤ 1000000) : 0 ≤ Int.tmod (wrap64 (wrap64 (Int.tmod x c + (c - 1)) + 1)) c ∧ Int.tmod (wrap64 (wrap64 (Int.tmod x c + (c - 1)) + 1)) c < c := by
  have m0 := Int.lt_tmod_of_pos x c0
  have m1 := Int.tmod_lt_of_pos x c0
  rw [w64 (n := Int.tmod x c + (c - 1)) (by omega) (by omega), w64 (by omega) (by omega), tmod_pos (by omega)]
  exact ⟨Int.emod_nonneg _ (by omega), Int.emod_lt_of_pos _ c0⟩
theorem mod_in2 {x c : Int} (hx : -9223372036854775808 ≤ x ∧ x ≤ 9223372036854775807) (c0 : 0 < c) (c1 : c ≤ 1000000) : 0 ≤ Int.tmod (wrap64 (Int.tmod x c + c)) c ∧ Int.tmod (wrap64 (Int.tmod x c + c)) c < c := by
  have m0 := Int.lt_tmod_of_pos x c0
  have m1 := Int.tmod_lt_of_pos x c0
  rw [w64 (n := Int.tmod x c + c) (by omega) (by omega), tmod_pos (by omega)]
  exact ⟨Int.emod_nonneg _ (by omega), Int.emod_lt_of_pos _ c0⟩
theorem lat_app (L : List Int) (x : Int) {q : Int} (h0 : 0 ≤ q) : lat (L ++ [x]) q = if q < L.length then lat L q else if q = L.length then x else 0 := by
  unfold lat
  rw [List.getD_eq_getElem?_getD, List.getD_eq_getElem?_getD]
  by_cases h : q < L.length
  · rw [if_pos h, List.getElem?_append_left (by omega)]
  · rw [if_neg h, List.getElem?_append_right (by omega)]
    by_cases e : q = L.length
    · rw [if_pos e, show q.toNat - L.length = 0 by omega]; rfl
    · rw [if_neg e, List.getElem?_eq_none (by rw [List.length_singleton]; omega)]; rfl
theorem cut_loop {R : Type} (e0 : List Int → Option R) (k : Nat) (ls : List Int) {d rows : Int} (hw : ∀ q : Int, 0 ≤ q → q < ls.length → -9223372036854775808 ≤ lat ls q ∧ lat ls q ≤ 9223372036854775807) (d1 : d ≤ 1000) (r0 : 0 ≤ rows) (r1 : rows ≤ 1000) :
    ∀ (u j : Nat) (i : Int) (out : List Int), 0 ≤ i → i ≤ d → (d - i).toNat = u → u < j → (out.length : Int) = i → (∀ q, 0 ≤ q → q < i → 0 ≤ lat out q ∧ lat out q ≤ rows) →
    ∃ L, corbellaw15_MendMissing_l1 e0 k ls d rows j i out = e0 L ∧ (L.length : Int) = d ∧ ∀ q, 0 ≤ q → q < d → 0 ≤ lat L q ∧ lat L q ≤ rows := by
  intro u
  induction u with
  | zero =>
    intro j i out i0 i1 hu hj hl hq
    obtain ⟨j, rfl⟩ : ∃ u, j = u + 1 := ⟨j - 1, by omega⟩
    refine ⟨out, ?_, by omega, fun q q0 q1 => hq q q0 (by omega)⟩
    rw [corbellaw15_MendMissing_l1]; unfold corbellaw15_MendMissing_l1s
    rw [decide_eq_false (by omega), cond_false]
  | succ u ih =>
    intro j i out i0 i1 hu hj hl hq
    obtain ⟨j, rfl⟩ : ∃ u, j = u + 1 := ⟨j - 1, by omega⟩
    rw [corbellaw15_MendMissing_l1]; unfold corbellaw15_MendMissing_l1s corbellaw15_MendMissing_j2 corbellaw15_MendMissing_j3 corbellaw15_MendMissing_j4
    rw [decide_eq_true (show i < d by omega), cond_true, lenI_eq]
    have hgo : ∀ v, 0 ≤ v → v ≤ rows → ∃ L, corbellaw15_MendMissing_l1 e0 k ls d rows j (i + 1) (out ++ [v]) = e0 L ∧ (L.length : Int) = d ∧ ∀ q, 0 ≤ q → q < d → 0 ≤ lat L q ∧ lat L q ≤ rows := by
      intro v v0 v1
      refine ih j (i + 1) (out ++ [v]) (by omega) (by omega) (by omega) (by omega) (by rw [List.length_append, List.length_singleton]; omega) (fun q q0 q1 => ?_)
      rw [lat_app out v q0]
      by_cases h : q < out.length
      · rw [if_pos h]; exact hq q q0 (by omega)
      · rw [if_neg h, if_pos (by omega)]; exact ⟨v0, v1⟩
    have hsz : ∀ v : Int, decide (out.length + ([v] : List Int).length ≤ 1099511627776) = true := fun v => decide_eq_true (by rw [List.length_singleton]; omega)
    have hwi : wrap64 (i + 1) = i + 1 := w64 (by omega) (by omega)
    by_cases h : i < (ls.length : Int)
    · rw [decide_eq_true h, cond_true, decide_eq_true i0, cond_true, lat_some i0 h]
      simp only [optb]
      rw [w64 (n := rows + 1) (by omega) (by omega), decide_eq_false (show ¬ rows + 1 = 0 by omega), cond_false, cond_false, hsz, cond_true, hwi]
      have hb := mod_in (hw i i0 h) (c := rows + 1) (by omega) (by omega)
      rw [show rows + 1 - 1 = rows by omega] at hb
      exact hgo _ hb.1 (by omega)
    · rw [decide_eq_false h, cond_false]; simp only []; rw [hsz, cond_true, hwi]
      exact hgo 0 (by omega) r0
theorem speaks15 (d : Nat) : corbellaw15_speaks (d + 300) = some true := by kernel_rfl
theorem missing_main (a0 a1 a2 a3 a4 ta tb tc td : Int) (la : Bool) (ls : List Int) (wa : -9223372036854775808 ≤ ta ∧ ta ≤ 9223372036854775807) (wb : -9223372036854775808 ≤ tb ∧ tb ≤ 9223372036854775807) (wc : -9223372036854775808 ≤ tc ∧ tc ≤ 9223372036854775807) (wd : -9223372036854775808 ≤ td ∧ td ≤ 9223372036854775807)
    (hw : ∀ q : Int, 0 ≤ q → q < ls.length → -9223372036854775808 ≤ lat ls q ∧ lat ls q ≤ 9223372036854775807) : corbellaw15_MendMissing (9700 + 300) a0 a1 a2 a3 a4 ta tb tc td la ls = some true := by
  unfold corbellaw15_MendMissing
  rw [speaks15, refgood_val]
  simp only [optb, Bool.not_true, cond_false]
  generalize hk : 9700 + 300 = k
  by_cases g : GG a0 a1 a2 a3 a4
  · rw [decide_eq_true g, zones_yes k g, cap_yes k g]
    have g' := g
    obtain ⟨h1, h2, h3, h4, h5, h6, _⟩ := g'
    have hc := cap_bound g
    simp only [Bool.not_true, cond_false]
    rw [decide_eq_false (show ¬ a1 - 3 = 0 by omega), w64 (n := (a0 - 1) * a2 + 1) (by omega) (by omega), decide_eq_false (show ¬ (a0 - 1) * a2 + 1 = 0 by omega)]
    simp only [cond_false, corbellaw15_MendMissing_j0]
    rw [decide_eq_false (show ¬ a0 = 0 by omega), cond_false, cond_false]
    have bz := mod_in2 wa (c := a1 - 3) (by omega) (by omega)
    have bt := mod_in wb (c := (a0 - 1) * a2 + 1) (by omega) (by omega)
    rw [show (a0 - 1) * a2 + 1 - 1 = (a0 - 1) * a2 by omega] at bt
    have bs := mod_in2 wc (c := a0) (by omega) (by omega)
    have bv := mod_in wd (c := a2 + 1) (by omega) (by omega)
    rw [show a2 + 1 - 1 = a2 by omega] at bv
    generalize Int.tmod (wrap64 (Int.tmod ta (a1 - 3) + (a1 - 3))) (a1 - 3) = z at bz ⊢
    generalize Int.tmod (wrap64 (wrap64 (Int.tmod tb ((a0 - 1) * a2 + 1) + (a0 - 1) * a2) + 1)) ((a0 - 1) * a2 + 1) = n at bt ⊢
    generalize Int.tmod (wrap64 (Int.tmod tc a0 + a0)) a0 = s at bs ⊢
    generalize he0 : (fun a : List Int => bif decide (([] : List Int).length + a.length ≤ 1099511627776) then corbellaw15_MendMissing_j5 (fun v => some v) k z n s a2 td a0 a1 a2 a3 a4 true a false (([] : List Int) ++ a) else none) = e0
    obtain ⟨L, e, hl, hb⟩ := cut_loop e0 k ls hw (d := a0) (rows := a2) (by omega) (by omega) (by omega) _ k 0 [] (Int.le_refl 0) (by omega) rfl (by omega) rfl (fun q q0 q1 => absurd q1 (by omega))
    rw [e, ← he0]
    simp only [List.length_nil, List.nil_append, corbellaw15_MendMissing_j5, corbellaw15_MendMissing_j6, corbellaw15_MendMissing_j7, lenI_eq]
    rw [decide_eq_true (show 0 + L.length ≤ 1099511627776 by omega), w64 (n := a2 + 1) (by omega) (by omega), decide_eq_false (show ¬ a2 + 1 = 0 by omega), decide_eq_true bs.1, decide_eq_true (show s < (L.length : Int) by omega), lat_some bs.1 (by omega)]
    simp only [cond_true, cond_false, Bool.and_self, optb]
    generalize Int.tmod (wrap64 (wrap64 (Int.tmod td (a2 + 1) + a2) + 1)) (a2 + 1) = v at bv ⊢
    have hz : InZN a0 a1 a2 z n := ⟨bz.1, bz.2, bt.1, by omega⟩
    have hat : ∀ q, 0 ≤ q → lat (L.set s.toNat v) q = if q = s then v else lat L q := fun q q0 => lat_set bs.1 (by omega) v q0
    have hls : (L.set s.toNat v).length = L.length := List.length_set ..
    have d1 : DecOK a0 a1 a2 a3 a4 z n L s := ⟨⟨g, hz⟩, hl, by omega, bs.2, fun q q0 q1 => hb q q0 (by omega)⟩
    have d2 : DecOK a0 a1 a2 a3 a4 z n (L.set s.toNat v) s := by
      refine ⟨⟨g, hz⟩, by rw [hls]; exact hl, by omega, bs.2, fun q q0 q1 => ?_⟩
      rw [hat q q0]
      by_cases e : q = s
      · rw [if_pos e]; omega
      · rw [if_neg e]; exact hb q q0 (by rw [hls] at q1; omega)
    have hwl := lensL_length (d := a0) (by omega) z n
    have d3 : DecOK a0 a1 a2 a3 a4 z n (lensL a0 z n) (-1) := by
      refine ⟨⟨g, hz⟩, hwl, by omega, by omega, fun q q0 q1 => ?_⟩
      rw [lensL_at q0 (by omega)]
      have := lenV_bounds g (zone := z) hz.2.2.1 hz.2.2.2 q0 (show q < a0 by omega)
      omega
    rw [dec_in k (by omega) true L s d1]
    simp only
    rw [dec_in k (by omega) false (L.set s.toNat v) s d2]
    simp only
    rw [lengths_in k (by omega) g hz]
    simp only
    rw [dec_in k (by omega) false (lensL a0 z n) (-1) d3, hls, moreV_nil (lensL a0 z n).length (fun q hq _ => Int.lt_irrefl _)]
    have em : moreV (lensL a0 z n) (L.set s.toNat v) s L.length = moreV (lensL a0 z n) L s L.length := moreV_congr _ (fun q hq hne => by rw [hat q (by omega), if_neg hne])
    have el : moreV (L.set s.toNat v) (lensL a0 z n) s L.length = moreV L (lensL a0 z n) s L.length := moreV_congr _ (fun q hq hne => by rw [hat q (by omega), if_neg hne])
    rw [em, el]
    have ed : decV a0 z n (lensL a0 z n) (L.set s.toNat v) (moreV (lensL a0 z n) L s L.length) (moreV L (lensL a0 z n) s L.length) = decV a0 z n (lensL a0 z n) L (moreV (lensL a0 z n) L s L.length) (moreV L (lensL a0 z n) s L.length) := by
      unfold decV
      have hiff : OneLess a0 z n (lensL a0 z n) (L.set s.toNat v) (moreV (lensL a0 z n) L s L.length) (moreV L (lensL a0 z n) s L.length) ↔ OneLess a0 z n (lensL a0 z n) L (moreV (lensL a0 z n) L s L.length) (moreV L (lensL a0 z n) s L.length) := by
        have key : ∀ t, moreV L (lensL a0 z n) s L.length = [t] → lat (L.set s.toNat v) t = lat L t := fun t ht => by
          have := moreV_mem L (lensL a0 z n) s L.length t (by rw [ht]; exact List.mem_singleton.2 rfl)
          rw [hat t this.1, if_neg this.2.2.1]
        exact ⟨fun ⟨x1, x2, t, x3, x4, x5⟩ => ⟨x1, x2, t, x3, x4, by rw [← key t x3]; exact x5⟩, fun ⟨x1, x2, t, x3, x4, x5⟩ => ⟨x1, x2, t, x3, x4, by rw [key t x3]; exact x5⟩⟩
      rw [dc_congr hiff]
    rw [ed]
    simp [decV, dc_t]
  · rw [decide_eq_false g]; rfl
theorem MendMissing : MendMissingPure := fun x0 x1 x2 _ h1 h2 => ⟨9700 + 300, missing_main _ _ _ _ _ _ _ _ _ _ _ (wf_i64 h1.1) (wf_i64 h1.2.1) (wf_i64 h1.2.2.1) (wf_i64 h1.2.2.2) (lat_wf h2)⟩
end Go.Proofs.Ytcikcikcjimcjaa.Pure
