/- BookNotes: the pure statement, over numbers and lists alone; no conditions. -/
import Derived.Test.YthilffdaofaalaaStatBookNotes
set_option linter.unusedVariables false
set_option linter.unusedSimpArgs false
namespace Go.Proofs.Ythilffdaofaalaa.Pure
open Go Go.RowKit Go.Proofs.Ythilffdaofaalaa.Ev
/-! ### whole numbers -/
theorem wf_i64 {n : Int} (h : Ty.wf (.int .i64) n) : -9223372036854775808 ≤ n ∧ n ≤ 9223372036854775807 := by
  have h : (Lit.int .i64 n).wf = true := h
  simpa [Lit.wf, IntKind.min, IntKind.max, IntKind.signed, IntKind.bits] using h
theorem w64 {n : Int} (h0 : -9223372036854775808 ≤ n) (h1 : n ≤ 9223372036854775807) : wrap64 n = n := by unfold wrap64; omega
theorem tdiv_pos {a b : Int} (ha : 0 ≤ a) : Int.tdiv a b = a / b := Int.tdiv_eq_ediv_of_nonneg ha
theorem tmod_pos {a b : Int} (ha : 0 ≤ a) : Int.tmod a b = a % b := Int.tmod_eq_emod_of_nonneg ha
theorem bytesOf_append (a b : List Int) : bytesOf a ++ bytesOf b = bytesOf (a ++ b) := by
  apply ByteArray.ext
  simp [bytesOf]
theorem cond_t {α : Type} {c : Bool} {a b : α} (h : c = true) : (bif c then a else b) = a := by rw [h]; rfl
theorem cond_f {α : Type} {c : Bool} {a b : α} (h : c = false) : (bif c then a else b) = b := by rw [h]; rfl
/-! ### the shape of an array of drives -/
def GG (a0 a1 a2 a3 a4 : Int) : Prop := 3 ≤ a0 ∧ a0 ≤ 16 ∧ 5 ≤ a1 ∧ a1 ≤ 64 ∧ 4 ≤ a2 ∧ a2 ≤ 256 ∧ 1 ≤ a3 ∧ a3 ≤ a4 ∧ a4 ≤ a1
instance (a0 a1 a2 a3 a4 : Int) : Decidable (GG a0 a1 a2 a3 a4) := by unfold GG; infer_instance
theorem within_val (k : Nat) (n l h : Int) : geom_within k n l h = some (decide (l ≤ n ∧ n ≤ h)) := by
  unfold geom_within
  by_cases a : l ≤ n <;> simp [a]
theorem good_val (k : Nat) (a0 a1 a2 a3 a4 : Int) : geom_Good k a0 a1 a2 a3 a4 = some (decide (GG a0 a1 a2 a3 a4)) := by
  unfold geom_Good
  simp only [within_val, optb]
  by_cases h1 : 3 ≤ a0 ∧ a0 ≤ 16 <;> by_cases h2 : 5 ≤ a1 ∧ a1 ≤ 64 <;> by_cases h3 : 4 ≤ a2 ∧ a2 ≤ 256 <;> by_cases h4 : 1 ≤ a3 ∧ a3 ≤ a4 <;> simp only [h1, h2, h3, h4, decide_true, decide_false, cond_true, cond_false, Option.some.injEq, decide_eq_decide, and_self] <;> first | (unfold GG; omega) | (symm; rw [decide_eq_false_iff_not]; unfold GG; omega)
theorem refgood_val (k : Nat) (a0 a1 a2 a3 a4 : Int) : corbelref04_Good k a0 a1 a2 a3 a4 = some (decide (GG a0 a1 a2 a3 a4)) := by
  unfold corbelref04_Good corbelref04_Good_j0 corbelref04_Good_k0 corbelref04_Good_k1
  by_cases h1 : a0 < 3 <;> by_cases h2 : 16 < a0 <;> by_cases h3 : a1 < 5 <;> by_cases h4 : 64 < a1 <;> by_cases h5 : a2 < 4 <;> by_cases h6 : 256 < a2 <;> by_cases h7 : 0 < a3 <;> by_cases h8 : a3 ≤ a4 <;>
    simp only [h1, h2, h3, h4, h5, h6, h7, h8, decide_true, decide_false, cond_true, cond_false, Option.some.injEq, decide_eq_decide] <;> first | (unfold GG; omega) | (symm; rw [decide_eq_false_iff_not]; unfold GG; omega)
section
variable {a0 a1 a2 a3 a4 : Int}
theorem zones_yes (k : Nat) (h : GG a0 a1 a2 a3 a4) : geom_Zones k a0 a1 a2 a3 a4 = some (a1 - 3) := by
  unfold geom_Zones
  rw [good_val, decide_eq_true h]
  obtain ⟨_, _, h1, h2, _⟩ := h
  show some _ = _
  rw [w64 (n := a1 - 2) (by omega) (by omega), w64 (by omega) (by omega)]
  congr 1; omega
theorem zones_no (k : Nat) (h : ¬ GG a0 a1 a2 a3 a4) : geom_Zones k a0 a1 a2 a3 a4 = some 0 := by
  unfold geom_Zones
  rw [good_val, decide_eq_false h]; rfl
end
/-! ### loops over whole numbers -/
noncomputable def dc (P : Prop) : Bool := @decide P (Classical.propDecidable P)
theorem dc_t {P : Prop} (h : P) : dc P = true := @decide_eq_true P (Classical.propDecidable P) h
theorem dc_f {P : Prop} (h : ¬ P) : dc P = false := @decide_eq_false P (Classical.propDecidable P) h
theorem dc_iff {P : Prop} : dc P = true ↔ P := ⟨fun h => @of_decide_eq_true P (Classical.propDecidable P) h, dc_t⟩
theorem dc_congr {P Q : Prop} (h : P ↔ Q) : dc P = dc Q := by rw [propext h]
theorem dc_dec {P : Prop} [Decidable P] : decide P = dc P := by
  by_cases h : P
  · rw [decide_eq_true h, dc_t h]
  · rw [decide_eq_false h, dc_f h]
theorem dc_and (P Q : Prop) : (dc P && dc Q) = dc (P ∧ Q) := by
  by_cases h : P
  · by_cases h2 : Q
    · rw [dc_t h, dc_t h2, dc_t ⟨h, h2⟩]; rfl
    · rw [dc_f h2, dc_f (fun x : P ∧ Q => h2 x.2), Bool.and_false]
  · rw [dc_f h, dc_f (fun x : P ∧ Q => h x.1)]; rfl
/-- up to the first number without `P` -/
theorem loopUp {R : Type} (f : Nat → Int → Option R) (lo to : Int) (P : Int → Prop) (yes : Option R) (no : Int → Option R)
    (hs : ∀ j i, lo ≤ i → i < to → P i → f (j + 1) i = f j (i + 1)) (hn : ∀ j i, lo ≤ i → i < to → ¬ P i → f (j + 1) i = no i) (he : ∀ j i, lo ≤ i → to ≤ i → f (j + 1) i = yes) :
    ∀ n j i, lo ≤ i → (to - i).toNat = n → n < j → ((∀ q, i ≤ q → q < to → P q) ∧ f j i = yes) ∨ (∃ q, i ≤ q ∧ q < to ∧ ¬ P q ∧ (∀ u, i ≤ u → u < q → P u) ∧ f j i = no q) := by
  intro n
  induction n with
  | zero =>
    intro j i hl h hj
    obtain ⟨j, rfl⟩ : ∃ u, j = u + 1 := ⟨j - 1, by omega⟩
    exact .inl ⟨fun q h1 h2 => absurd h2 (by omega), he j i hl (by omega)⟩
  | succ n ih =>
    intro j i hl h hj
    obtain ⟨j, rfl⟩ : ∃ u, j = u + 1 := ⟨j - 1, by omega⟩
    by_cases hp : P i
    · rw [hs j i hl (by omega) hp]
      rcases ih j (i + 1) (by omega) (by omega) (by omega) with ⟨h1, h2⟩ | ⟨q, h1, h2, h3, h4, h5⟩
      · refine .inl ⟨fun q h3 h4 => ?_, h2⟩
        by_cases e : q = i
        · rw [e]; exact hp
        · exact h1 q (by omega) h4
      · refine .inr ⟨q, by omega, h2, h3, fun u h6 h7 => ?_, h5⟩
        by_cases e : u = i
        · rw [e]; exact hp
        · exact h4 u (by omega) h7
    · exact .inr ⟨i, by omega, by omega, hp, fun u h1 h2 => absurd h2 (by omega), hn j i hl (by omega) hp⟩
/-- the same, for a loop that ends where it should -/
theorem loopTo {R : Type} (f : Nat → Int → Option R) (lo to : Int) (P : Int → Prop) (yes : Option R) (no : Int → Option R)
    (hs : ∀ j i, lo ≤ i → i < to → P i → f (j + 1) i = f j (i + 1)) (hn : ∀ j i, lo ≤ i → i < to → ¬ P i → f (j + 1) i = no i) (he : ∀ j, f (j + 1) to = yes) :
    ∀ n j i, lo ≤ i → i ≤ to → (to - i).toNat = n → n < j → ((∀ q, i ≤ q → q < to → P q) ∧ f j i = yes) ∨ (∃ q, i ≤ q ∧ q < to ∧ ¬ P q ∧ (∀ u, i ≤ u → u < q → P u) ∧ f j i = no q) := by
  intro n
  induction n with
  | zero =>
    intro j i hl hle h hj
    obtain ⟨j, rfl⟩ : ∃ u, j = u + 1 := ⟨j - 1, by omega⟩
    exact .inl ⟨fun q h1 h2 => absurd h2 (by omega), by rw [show i = to by omega]; exact he j⟩
  | succ n ih =>
    intro j i hl hle h hj
    obtain ⟨j, rfl⟩ : ∃ u, j = u + 1 := ⟨j - 1, by omega⟩
    by_cases hp : P i
    · rw [hs j i hl (by omega) hp]
      rcases ih j (i + 1) (by omega) (by omega) (by omega) (by omega) with ⟨h1, h2⟩ | ⟨q, h1, h2, h3, h4, h5⟩
      · refine .inl ⟨fun q h3 h4 => ?_, h2⟩
        by_cases e : q = i
        · rw [e]; exact hp
        · exact h1 q (by omega) h4
      · refine .inr ⟨q, by omega, h2, h3, fun u h6 h7 => ?_, h5⟩
        by_cases e : u = i
        · rw [e]; exact hp
        · exact h4 u (by omega) h7
    · exact .inr ⟨i, by omega, by omega, hp, fun u h1 h2 => absurd h2 (by omega), hn j i hl (by omega) hp⟩
theorem loopAll {R : Type} (f : Nat → Int → Option R) (lo to : Int) (P : Int → Prop) (yes no : Option R)
    (hs : ∀ j i, lo ≤ i → i < to → P i → f (j + 1) i = f j (i + 1)) (hn : ∀ j i, lo ≤ i → i < to → ¬ P i → f (j + 1) i = no) (he : ∀ j i, lo ≤ i → to ≤ i → f (j + 1) i = yes)
    (j : Nat) (i : Int) (hl : lo ≤ i) (hj : (to - i).toNat < j) : f j i = bif dc (∀ q, i ≤ q → q < to → P q) then yes else no := by
  rcases loopUp f lo to P yes (fun _ => no) hs hn he _ j i hl rfl hj with ⟨h1, h2⟩ | ⟨q, h1, h2, h3, _, h5⟩
  · rw [dc_t h1, h2]; rfl
  · rw [dc_f (fun h => h3 (h q h1 h2)), h5]; rfl
/-- the last number below `n` with `P` -/
noncomputable def lastI (P : Int → Prop) : Nat → Int
  | 0 => -1
  | n + 1 => bif dc (P n) then n else lastI P n
theorem lastI_lt (P : Int → Prop) (n : Nat) : -1 ≤ lastI P n ∧ lastI P n < n := by
  induction n with
  | zero => exact ⟨Int.le_refl (-1), by show (-1 : Int) < 0; decide⟩
  | succ n ih =>
    unfold lastI
    cases dc (P n) with
    | true => rw [cond_true]; omega
    | false => rw [cond_false]; omega
theorem lastI_yes (P : Int → Prop) (n : Nat) (h : 0 ≤ lastI P n) : P (lastI P n) := by
  induction n with
  | zero => exact absurd (show (0 : Int) ≤ -1 from h) (by decide)
  | succ n ih =>
    unfold lastI at h ⊢
    by_cases hp : P n
    · rw [dc_t hp]; exact hp
    · rw [dc_f hp] at h ⊢; exact ih h
theorem lastI_no (P : Int → Prop) (n : Nat) : 0 ≤ lastI P n ↔ ∃ q : Nat, q < n ∧ P q := by
  induction n with
  | zero => exact ⟨fun h => absurd (show (0 : Int) ≤ -1 from h) (by decide), fun ⟨q, h, _⟩ => absurd h (by omega)⟩
  | succ n ih =>
    unfold lastI
    by_cases hp : P n
    · rw [dc_t hp]; exact ⟨fun _ => ⟨n, by omega, hp⟩, fun _ => by rw [cond_true]; omega⟩
    · rw [dc_f hp, cond_false, ih]
      refine ⟨fun ⟨q, h1, h2⟩ => ⟨q, by omega, h2⟩, fun ⟨q, h1, h2⟩ => ⟨q, ?_, h2⟩⟩
      by_cases e : q = n
      · rw [e] at h2; exact absurd h2 hp
      · omega
theorem lastI_congr {P Q : Int → Prop} (n : Nat) (h : ∀ q : Nat, q < n → (P q ↔ Q q)) : lastI P n = lastI Q n := by
  induction n with
  | zero => rfl
  | succ n ih => unfold lastI; rw [dc_congr (h n (by omega)), ih (fun q hq => h q (by omega))]
theorem loopDown {R : Type} (f : Nat → Int → Option R) (N : Nat) (P : Int → Prop) (yes : Int → Option R) (no : Option R)
    (hy : ∀ j (i : Nat), i < N → P i → f (j + 1) i = yes i) (hn : ∀ j (i : Nat), i < N → ¬ P i → f (j + 1) i = f j (i - 1)) (he : ∀ j, f (j + 1) (-1) = no) :
    ∀ n j, n ≤ N → n < j → f j (n - 1) = bif decide (0 ≤ lastI P n) then yes (lastI P n) else no := by
  intro n
  induction n with
  | zero =>
    intro j _ hj
    obtain ⟨j, rfl⟩ : ∃ u, j = u + 1 := ⟨j - 1, by omega⟩
    exact he j
  | succ n ih =>
    intro j hN hj
    obtain ⟨j, rfl⟩ : ∃ u, j = u + 1 := ⟨j - 1, by omega⟩
    rw [show ((n + 1 : Nat) : Int) - 1 = (n : Int) by omega]
    unfold lastI
    by_cases hp : P n
    · rw [hy j n (by omega) hp, dc_t hp, cond_true, decide_eq_true (by omega)]; rfl
    · rw [hn j n (by omega) hp, dc_f hp, cond_false]; exact ih j (by omega) (by omega)
/-- a state that is carried along -/
def foldI {S : Type} (g : Int → S → S) : Nat → Int → S → S
  | 0, _, s => s
  | n + 1, i, s => foldI g n (i + 1) (g i s)
theorem loopFold {R S : Type} (f : Nat → S → Int → Option R) (lo to : Int) (g : Int → S → S) (e : S → Option R)
    (hs : ∀ j s i, lo ≤ i → i < to → f (j + 1) s i = f j (g i s) (i + 1)) (he : ∀ j s i, lo ≤ i → to ≤ i → f (j + 1) s i = e s) :
    ∀ n j s i, lo ≤ i → (to - i).toNat = n → n < j → f j s i = e (foldI g n i s) := by
  intro n
  induction n with
  | zero =>
    intro j s i hl h hj
    obtain ⟨j, rfl⟩ : ∃ u, j = u + 1 := ⟨j - 1, by omega⟩
    exact he j s i hl (by omega)
  | succ n ih =>
    intro j s i hl h hj
    obtain ⟨j, rfl⟩ : ∃ u, j = u + 1 := ⟨j - 1, by omega⟩
    rw [hs j s i hl (by omega), ih j _ _ (by omega) (by omega) (by omega)]; rfl
theorem foldI_and (P : Int → Prop) : ∀ n i a, foldI (fun i a => a && dc (P i)) n i a = (a && dc (∀ q, i ≤ q → q < i + (n : Nat) → P q)) := by
  intro n
  induction n with
  | zero => intro i a; rw [dc_t (fun q h1 h2 => absurd h2 (by omega)), Bool.and_true]; rfl
  | succ n ih =>
    intro i a
    show foldI _ n (i + 1) (a && dc (P i)) = _
    rw [ih, Bool.and_assoc, dc_and]
    congr 1
    refine dc_congr ⟨fun ⟨h, h'⟩ q h1 h2 => ?_, fun h => ⟨h i (by omega) (by omega), fun q h1 h2 => h q (by omega) (by omega)⟩⟩
    by_cases e : q = i
    · rw [e]; exact h
    · exact h' q (by omega) (by omega)
theorem foldI_snoc {S : Type} (g : Int → S → S) : ∀ n i s, foldI g (n + 1) i s = g (i + (n : Nat)) (foldI g n i s) := by
  intro n
  induction n with
  | zero => intro i s; show g i s = g (i + 0) s; rw [Int.add_zero]
  | succ n ih =>
    intro i s
    show foldI g (n + 1) (i + 1) (g i s) = _
    rw [ih]
    show g (i + 1 + (n : Nat)) _ = g (i + ((n + 1 : Nat) : Int)) (foldI g n (i + 1) (g i s))
    congr 1; omega
theorem foldI_last (P : Int → Prop) (n : Nat) : foldI (fun i a => bif dc (P i) then i else a) n 0 (-1) = lastI P n := by
  induction n with
  | zero => rfl
  | succ n ih => rw [foldI_snoc, ih]; show _ = (bif dc (P n) then (n : Int) else lastI P n); rw [Int.zero_add]
/-! ### reading a list -/
def lat (L : List Int) (q : Int) : Int := L.getD q.toNat 0
theorem lat_some {L : List Int} {q : Int} (h0 : 0 ≤ q) (h1 : q < L.length) : L[q.toNat]? = some (lat L q) := by
  have h : q.toNat < L.length := by omega
  unfold lat
  rw [List.getD_eq_getElem?_getD, List.getElem?_eq_getElem h]; rfl
theorem lat_wf {L : List Int} {b : Bool} (h : Ty.wf (.sl (.int .i64)) (b, L)) (q : Int) (h0 : 0 ≤ q) (h1 : q < L.length) : -9223372036854775808 ≤ lat L q ∧ lat L q ≤ 9223372036854775807 := by
  have hm : lat L q ∈ L := by
    have h : q.toNat < L.length := by omega
    unfold lat
    rw [List.getD_eq_getElem?_getD, List.getElem?_eq_getElem h]; exact List.getElem_mem h
  exact wf_i64 (h.2.2 _ hm)
abbrev Zn := Int × (Int × Int)
abbrev Rcd := Int × (Int × (Int × (Int × (Int × (Int × ByteArray)))))
theorem optb_some {α β : Type} (a : α) (f : α → Option β) : optb (some a) f = f a := rfl
def gat {α : Type} (d : α) (L : List α) (q : Int) : α := L.getD q.toNat d
theorem gat_some {α : Type} (d : α) {L : List α} {q : Int} (h0 : 0 ≤ q) (h1 : q < L.length) : L[q.toNat]? = some (gat d L q) := by
  have h : q.toNat < L.length := by omega
  unfold gat
  rw [List.getD_eq_getElem?_getD, List.getElem?_eq_getElem h]; rfl
theorem gat_set {α : Type} (d : α) {L : List α} {i : Int} (h0 : 0 ≤ i) (hi : i < L.length) (v : α) {q : Int} (hq : 0 ≤ q) : gat d (L.set i.toNat v) q = if q = i then v else gat d L q := by
  unfold gat
  rw [List.getD_eq_getElem?_getD, List.getD_eq_getElem?_getD, List.getElem?_set]
  by_cases e : q = i
  · rw [if_pos e, if_pos (by omega), if_pos (by omega)]; rfl
  · rw [if_neg e, if_neg (by omega)]
theorem clone_val (k : Nat) (b : Bool) (L : List Zn) (h : L.length ≤ 1000) : ∃ b', slices_Clone k b L = some (b', L) := by
  unfold slices_Clone
  rw [decide_eq_true (show ([] : List Zn).length + L.length ≤ 1099511627776 by rw [List.length_nil]; omega)]
  cases b with
  | false => exact ⟨false, by simp⟩
  | true =>
    cases L with
    | nil => exact ⟨true, rfl⟩
    | cons x l => exact ⟨false, by simp⟩
theorem clone2_val (k : Nat) (b : Bool) (L : List Int) (h : L.length ≤ 1000) : ∃ b', slices_Clone_68 k b L = some (b', L) := by
  unfold slices_Clone_68
  rw [decide_eq_true (show ([] : List Int).length + L.length ≤ 1099511627776 by rw [List.length_nil]; omega)]
  cases b with
  | false => exact ⟨false, by simp⟩
  | true =>
    cases L with
    | nil => exact ⟨true, rfl⟩
    | cons x l => exact ⟨false, by simp⟩
/-! a record more -/
noncomputable def noteZ (L : List Zn) (xa xc xd xe xf : Int) : List Zn := bif dc (xa = 3 ∧ 0 ≤ xc ∧ xc < L.length) then L.set xc.toNat (xd, xe, xf) else L
noncomputable def noteM (L : List Int) (xa xc xd : Int) : List Int := bif dc (xa = 5 ∧ 0 ≤ xc ∧ xc < L.length) then L.set xc.toNat xd else L
noncomputable def noteS (bf xa xc : Int) : Int := bif decide (xa = 6) then (bif decide (xc = 65535) then -1 else xc) else bf
noncomputable def noteC (bg xa xd : Int) : Int := bif decide (xa = 6) then xd else bg
noncomputable def noteQ (ba xb : Int) : Int := bif (decide (xb > ba)) then xb else ba
theorem noteZ_len (L : List Zn) (xa xc xd xe xf : Int) : (noteZ L xa xc xd xe xf).length = L.length := by
  unfold noteZ
  cases dc _ with
  | true => rw [cond_true, List.length_set]
  | false => rfl
theorem noteM_len (L : List Int) (xa xc xd : Int) : (noteM L xa xc xd).length = L.length := by
  unfold noteM
  cases dc _ with
  | true => rw [cond_true, List.length_set]
  | false => rfl
theorem note_val (k : Nat) (ba : Int) (bb : Bool) (Z : List Zn) (bd : Bool) (M : List Int) (bf bg xa xb xc xd xe xf : Int) (xg : ByteArray) (hZ : Z.length ≤ 1000) (hM : M.length ≤ 1000) :
    ∃ b1 b2, book_Book_Note k ba bb Z bd M bf bg xa xb xc xd xe xf xg = some (noteQ ba xb, ((b1, noteZ Z xa xc xd xe xf), ((b2, noteM M xa xc xd), (noteS bf xa xc, noteC bg xa xd)))) := by
  obtain ⟨b1, h1⟩ := clone_val k bb Z hZ
  obtain ⟨b2, h2⟩ := clone2_val k bd M hM
  refine ⟨b1, b2, ?_⟩
  unfold book_Book_Note
  rw [h1, optb_some, h2, optb_some]
  simp only [book_Book_Note_j0, book_Book_Note_k1, book_Book_Note_j2, book_Book_Note_j1, book_Book_Note_k0, lenI_eq]
  unfold noteZ noteM noteS noteC noteQ
  by_cases c3 : xa = 3
  · subst c3
    rw [decide_eq_false (show ¬ (3 : Int) = 5 by decide), decide_eq_false (show ¬ (3 : Int) = 6 by decide), dc_f (fun x : (3 : Int) = 5 ∧ _ => absurd x.1 (by decide))]
    simp only [decide_true, cond_true, cond_false]
    by_cases c0 : 0 ≤ xc
    · rw [decide_eq_true c0]
      by_cases c1 : xc < Z.length
      · rw [decide_eq_true c1, dc_t ⟨trivial, c0, c1⟩, gat_some (0, 0, 0) c0 c1]; rfl
      · rw [decide_eq_false c1, dc_f (fun x => c1 x.2.2)]; rfl
    · rw [decide_eq_false c0, dc_f (fun x => c0 x.2.1)]; rfl
  · rw [decide_eq_false c3, dc_f (fun x : xa = 3 ∧ _ => c3 x.1)]
    simp only [cond_false]
    by_cases c5 : xa = 5
    · subst c5
      rw [decide_eq_false (show ¬ (5 : Int) = 6 by decide)]
      simp only [decide_true, cond_true, cond_false]
      by_cases c0 : 0 ≤ xc
      · rw [decide_eq_true c0]
        by_cases c1 : xc < M.length
        · rw [decide_eq_true c1, dc_t ⟨trivial, c0, c1⟩, gat_some (0 : Int) c0 c1]; rfl
        · rw [decide_eq_false c1, dc_f (fun x => c1 x.2.2)]; rfl
      · rw [decide_eq_false c0, dc_f (fun x => c0 x.2.1)]; rfl
    · rw [decide_eq_false c5, dc_f (fun x : xa = 5 ∧ _ => c5 x.1)]
      simp only [cond_false]
      by_cases c6 : xa = 6
      · rw [decide_eq_true c6]
        by_cases c7 : xc = 65535
        · rw [decide_eq_true c7]; rfl
        · rw [decide_eq_false c7]; rfl
      · rw [decide_eq_false c6]; rfl
/-! the law's loops -/
theorem l4_val {R : Type} (e0 : Bool → Option R) (e1 : Option R) (k : Nat) (L : List Zn) (hL : L.length ≤ 1000) (hk : 2000 ≤ k) : corbellaw10_BookNotes_l4 e0 e1 k L L k 0 = e1 := by
  rw [loopAll (corbellaw10_BookNotes_l4 e0 e1 k L L) 0 L.length (fun _ => True) e1 none
    (fun j i i0 i1 _ => by
      rw [corbellaw10_BookNotes_l4]; unfold corbellaw10_BookNotes_l4s
      rw [lenI_eq, decide_eq_true i1, decide_eq_true i0, gat_some (0, 0, 0) i0 i1]
      simp only [optb, cond_true, Bool.and_self, decide_true, Bool.not_true, cond_false]
      rw [w64 (by omega) (by omega)])
    (fun j i i0 i1 hp => absurd trivial hp)
    (fun j i i0 i1 => by
      rw [corbellaw10_BookNotes_l4]; unfold corbellaw10_BookNotes_l4s
      rw [lenI_eq, decide_eq_false (by omega), cond_false]) k 0 (by omega) (by omega), dc_t (fun _ _ _ => trivial), cond_true]
theorem l5_val {R : Type} (e0 : Bool → Option R) (e1 : Option R) (k : Nat) (L : List Int) (hL : L.length ≤ 1000) (hk : 2000 ≤ k) : corbellaw10_BookNotes_l5 e0 e1 k L L k 0 = e1 := by
  rw [loopAll (corbellaw10_BookNotes_l5 e0 e1 k L L) 0 L.length (fun _ => True) e1 none
    (fun j i i0 i1 _ => by
      rw [corbellaw10_BookNotes_l5]; unfold corbellaw10_BookNotes_l5s
      rw [lenI_eq, decide_eq_true i1, decide_eq_true i0, gat_some (0 : Int) i0 i1]
      simp only [optb, cond_true, Bool.and_self, decide_true, Bool.not_true, cond_false]
      rw [w64 (by omega) (by omega)])
    (fun j i i0 i1 hp => absurd trivial hp)
    (fun j i i0 i1 => by
      rw [corbellaw10_BookNotes_l5]; unfold corbellaw10_BookNotes_l5s
      rw [lenI_eq, decide_eq_false (by omega), cond_false]) k 0 (by omega) (by omega), dc_t (fun _ _ _ => trivial), cond_true]
theorem l7_val {R : Type} (e0 : Bool → Option R) (e1 : Option R) (k : Nat) (L : List Zn) (xa xc xd xe xf : Int) (hL : L.length ≤ 1000) (hk : 2000 ≤ k) :
    corbellaw10_BookNotes_l7 e0 e1 k L (noteZ L xa xc xd xe xf) xa xc xd xe xf k 0 = e1 := by
  have hlen := noteZ_len L xa xc xd xe xf
  rw [loopAll (corbellaw10_BookNotes_l7 e0 e1 k L (noteZ L xa xc xd xe xf) xa xc xd xe xf) 0 L.length (fun _ => True) e1 none
    (fun j i i0 i1 _ => by
      rw [corbellaw10_BookNotes_l7]; unfold corbellaw10_BookNotes_l7s corbellaw10_BookNotes_j8 corbellaw10_BookNotes_k2 corbellaw10_BookNotes_j9 corbellaw10_BookNotes_j10
      rw [lenI_eq, hlen, decide_eq_true i1, decide_eq_true i0, gat_some (L := L) (0, 0, 0) i0 i1, gat_some (L := noteZ L xa xc xd xe xf) (0, 0, 0) i0 (by rw [hlen]; exact i1)]
      simp only [optb, cond_true, cond_false, Bool.and_self]
      rw [w64 (n := i + 1) (by omega) (by omega)]
      by_cases c3 : xa = 3
      · rw [decide_eq_true c3]
        by_cases ci : xc = i
        · have : gat (0, 0, 0) (noteZ L xa xc xd xe xf) i = (xd, xe, xf) := by
            unfold noteZ
            rw [dc_t ⟨c3, by omega, by omega⟩, cond_true, gat_set _ (by omega) (by omega) _ i0, if_pos ci.symm]
          rw [decide_eq_true ci, this]; simp
        · have : gat (0, 0, 0) (noteZ L xa xc xd xe xf) i = gat (0, 0, 0) L i := by
            unfold noteZ
            by_cases c : xa = 3 ∧ 0 ≤ xc ∧ xc < L.length
            · rw [dc_t c, cond_true, gat_set _ c.2.1 c.2.2 _ i0, if_neg (fun x => ci x.symm)]
            · rw [dc_f c]; rfl
          rw [decide_eq_false ci, this]; simp
      · have : gat (0, 0, 0) (noteZ L xa xc xd xe xf) i = gat (0, 0, 0) L i := by
          unfold noteZ
          rw [dc_f (fun x => c3 x.1)]; rfl
        rw [decide_eq_false c3, this]; simp)
    (fun j i i0 i1 hp => absurd trivial hp)
    (fun j i i0 i1 => by
      rw [corbellaw10_BookNotes_l7]; unfold corbellaw10_BookNotes_l7s
      rw [lenI_eq, hlen, decide_eq_false (by omega), cond_false]) k 0 (by omega) (by omega), dc_t (fun _ _ _ => trivial), cond_true]
theorem l11_val {R : Type} (e0 : Bool → Option R) (e1 : Option R) (k : Nat) (L : List Int) (xa xc xd : Int) (hL : L.length ≤ 1000) (hk : 2000 ≤ k) :
    corbellaw10_BookNotes_l11 e0 e1 k L (noteM L xa xc xd) xa xc xd k 0 = e1 := by
  have hlen := noteM_len L xa xc xd
  rw [loopAll (corbellaw10_BookNotes_l11 e0 e1 k L (noteM L xa xc xd) xa xc xd) 0 L.length (fun _ => True) e1 none
    (fun j i i0 i1 _ => by
      rw [corbellaw10_BookNotes_l11]; unfold corbellaw10_BookNotes_l11s corbellaw10_BookNotes_j12 corbellaw10_BookNotes_k3 corbellaw10_BookNotes_j13 corbellaw10_BookNotes_j14
      rw [lenI_eq, hlen, decide_eq_true i1, decide_eq_true i0, gat_some (L := L) (0 : Int) i0 i1, gat_some (L := noteM L xa xc xd) (0 : Int) i0 (by rw [hlen]; exact i1)]
      simp only [optb, cond_true, cond_false, Bool.and_self]
      rw [w64 (n := i + 1) (by omega) (by omega)]
      by_cases c3 : xa = 5
      · rw [decide_eq_true c3]
        by_cases ci : xc = i
        · have : gat 0 (noteM L xa xc xd) i = xd := by
            unfold noteM
            rw [dc_t ⟨c3, by omega, by omega⟩, cond_true, gat_set _ (by omega) (by omega) _ i0, if_pos ci.symm]
          rw [decide_eq_true ci, this]; simp
        · have : gat 0 (noteM L xa xc xd) i = gat 0 L i := by
            unfold noteM
            by_cases c : xa = 5 ∧ 0 ≤ xc ∧ xc < L.length
            · rw [dc_t c, cond_true, gat_set _ c.2.1 c.2.2 _ i0, if_neg (fun x => ci x.symm)]
            · rw [dc_f c]; rfl
          rw [decide_eq_false ci, this]; simp
      · have : gat 0 (noteM L xa xc xd) i = gat 0 L i := by
          unfold noteM
          rw [dc_f (fun x => c3 x.1)]; rfl
        rw [decide_eq_false c3, this]; simp)
    (fun j i i0 i1 hp => absurd trivial hp)
    (fun j i i0 i1 => by
      rw [corbellaw10_BookNotes_l11]; unfold corbellaw10_BookNotes_l11s
      rw [lenI_eq, hlen, decide_eq_false (by omega), cond_false]) k 0 (by omega) (by omega), dc_t (fun _ _ _ => trivial), cond_true]
theorem j3_val {R : Type} (e0 : Bool → Int → Option R) (e1 : Int → Option R) (k : Nat) (hk : 2000 ≤ k) (lb : List Rcd) (ba : Int) (i : Nat) (r : Rcd) (hr : lb[i]? = some r) (Z : List Zn) (M : List Int) (bf bg : Int) (Z0 : List Zn) (M0 : List Int) (hZ : Z.length ≤ 1000) (hM : M.length ≤ 1000) (hZ0 : Z.length = Z0.length) (hM0 : M.length = M0.length) :
    corbellaw10_BookNotes_j3 e0 e1 k lb ba i Z M bf bg Z0 M0 Z M (noteZ Z r.1 r.2.2.1 r.2.2.2.1 r.2.2.2.2.1 r.2.2.2.2.2.1) (noteM M r.1 r.2.2.1 r.2.2.2.1) (noteQ ba r.2.1) (noteS bf r.1 r.2.2.1) (noteC bg r.1 r.2.2.2.1) = e1 (noteQ ba r.2.1) := by
  unfold corbellaw10_BookNotes_j3
  rw [l4_val _ _ k Z hZ hk, l5_val _ _ k M hM hk, decide_eq_true (show (0 : Int) ≤ i by omega), cond_true, Int.toNat_natCast, hr, optb_some]
  simp only [cond_true]
  rw [optb_some, show (bif decide (r.2.1 > ba) then r.2.1 else ba) = noteQ ba r.2.1 from rfl, lenI_eq, lenI_eq, lenI_eq, lenI_eq, noteZ_len, noteM_len, decide_eq_true (show ((Z.length : Nat) : Int) = Z0.length by omega), decide_eq_true (show ((M.length : Nat) : Int) = M0.length by omega)]
  simp only [decide_true, Bool.not_true, cond_false, corbellaw10_BookNotes_j6, corbellaw10_BookNotes_k1]
  rw [l7_val _ _ k Z _ _ _ _ _ hZ hk, l11_val _ _ k M _ _ _ hM hk]
  unfold noteS noteC corbellaw10_BookNotes_j15 corbellaw10_BookNotes_k5 corbellaw10_BookNotes_j16
  by_cases c6 : r.1 = 6
  · rw [decide_eq_true c6]
    simp only [cond_true, decide_true, Bool.not_true, cond_false]
    by_cases c7 : r.2.2.1 = 65535
    · rw [decide_eq_true c7]; simp
    · rw [decide_eq_false c7]; simp
  · rw [decide_eq_false c6]; simp
theorem l2_val {R : Type} (e0 : Bool → Int → Bool → List Zn → Bool → List Int → Int → Int → Option R) (e1 : Int → Bool → List Zn → Bool → List Int → Int → Int → Option R) (k : Nat) (hk : 2000 ≤ k) (lb : List Rcd) (hb : lb.length ≤ 1000) (Z0 : List Zn) (M0 : List Int) (hZ0 : Z0.length ≤ 1000) (hM0 : M0.length ≤ 1000) (P : Option R → Prop)
    (he : ∀ ba bb Z bd M bf bg, Z.length = Z0.length → M.length = M0.length → P (e1 ba bb Z bd M bf bg)) : ∀ (u j i : Nat) ba bb Z bd M bf bg, lb.length - i = u → i ≤ lb.length → u < j → Z.length = Z0.length → M.length = M0.length →
    P (corbellaw10_BookNotes_l2 e0 e1 k lb Z0 M0 j ba i ba bb Z bd M bf bg) := by
  intro u
  induction u with
  | zero =>
    intro j i ba bb Z bd M bf bg hu hi hj hz hm
    obtain ⟨j, rfl⟩ : ∃ u, j = u + 1 := ⟨j - 1, by omega⟩
    rw [corbellaw10_BookNotes_l2]; unfold corbellaw10_BookNotes_l2s
    rw [lenI_eq, decide_eq_false (by omega), cond_false]
    exact he ba bb Z bd M bf bg hz hm
  | succ u ih =>
    intro j i ba bb Z bd M bf bg hu hi hj hz hm
    obtain ⟨j, rfl⟩ : ∃ u, j = u + 1 := ⟨j - 1, by omega⟩
    have hil : i < lb.length := by omega
    have hr := List.getElem?_eq_getElem hil
    generalize hx : lb[i] = r at hr
    obtain ⟨b1, b2, hn⟩ := note_val k ba bb Z bd M bf bg r.1 r.2.1 r.2.2.1 r.2.2.2.1 r.2.2.2.2.1 r.2.2.2.2.2.1 r.2.2.2.2.2.2 (by omega) (by omega)
    rw [corbellaw10_BookNotes_l2]; unfold corbellaw10_BookNotes_l2s
    rw [lenI_eq, decide_eq_true (show (i : Int) < lb.length by omega), decide_eq_true (show ([] : List Zn).length + Z.length ≤ 1099511627776 by rw [List.length_nil]; omega), decide_eq_true (show ([] : List Int).length + M.length ≤ 1099511627776 by rw [List.length_nil]; omega), decide_eq_true (show (0 : Int) ≤ i by omega), Int.toNat_natCast, hr]
    simp only [cond_true, List.nil_append]
    rw [optb_some, hn, optb_some]
    rw [j3_val _ _ k hk lb ba i r hr Z M bf bg Z0 M0 (by omega) (by omega) hz hm]
    simp only [corbellaw10_BookNotes_j17]
    rw [w64 (n := (i : Int) + 1) (by omega) (by omega)]
    exact ih j (i + 1) _ _ _ _ _ _ _ (by omega) (by omega) (by omega) (by rw [noteZ_len]; exact hz) (by rw [noteM_len]; exact hm)
/-! the free zone -/
def thereP (Z : List Zn) (p : Int) : Prop := ∃ q : Int, 0 ≤ q ∧ q < Z.length ∧ (gat (0, 0, 0) Z q).1 = p
theorem l21_val {R : Type} (e0 : Bool → Option R) (k : Nat) (hk : 2000 ≤ k) (p : Int) (Z : List Zn) (hZ : Z.length ≤ 1000) : corbellaw10_BookNotes_l21 e0 k p Z k false 0 = e0 (dc (thereP Z p)) := by
  have key : ∀ (u j : Nat) (i : Int) (a : Bool), 0 ≤ i → (Z.length - i).toNat = u → i ≤ Z.length → u < j → corbellaw10_BookNotes_l21 e0 k p Z j a i = e0 (a || dc (∃ q, i ≤ q ∧ q < Z.length ∧ (gat (0, 0, 0) Z q).1 = p)) := by
    intro u
    induction u with
    | zero =>
      intro j i a i0 hu hi hj
      obtain ⟨j, rfl⟩ : ∃ u, j = u + 1 := ⟨j - 1, by omega⟩
      rw [corbellaw10_BookNotes_l21]; unfold corbellaw10_BookNotes_l21s
      rw [lenI_eq, decide_eq_false (by omega), cond_false, dc_f (fun ⟨q, h1, h2, _⟩ => by omega), Bool.or_false]
    | succ u ih =>
      intro j i a i0 hu hi hj
      obtain ⟨j, rfl⟩ : ∃ u, j = u + 1 := ⟨j - 1, by omega⟩
      rw [corbellaw10_BookNotes_l21]; unfold corbellaw10_BookNotes_l21s corbellaw10_BookNotes_j22 corbellaw10_BookNotes_k8
      have hil : i < Z.length := by omega
      rw [lenI_eq, decide_eq_true hil, cond_true, w64 (n := i + 1) (by omega) (by omega)]
      cases a with
      | true => rw [cond_true]; exact (ih j (i + 1) true (by omega) (by omega) (by omega) (by omega)).trans (by simp)
      | false =>
        rw [cond_false, decide_eq_true i0, cond_true, gat_some (0, 0, 0) i0 hil, optb_some]
        refine (ih j (i + 1) _ (by omega) (by omega) (by omega) (by omega)).trans ?_
        congr 1
        rw [Bool.false_or]
        by_cases h : (gat (0, 0, 0) Z i).1 = p
        · rw [decide_eq_true h, dc_t (show ∃ q, i ≤ q ∧ q < (Z.length : Int) ∧ (gat (0, 0, 0) Z q).1 = p from ⟨i, by omega, hil, h⟩)]; rfl
        · rw [decide_eq_false h, Bool.false_or]
          refine dc_congr ⟨fun ⟨q, h1, h2, h3⟩ => ⟨q, by omega, h2, h3⟩, fun ⟨q, h1, h2, h3⟩ => ⟨q, ?_, h2, h3⟩⟩
          by_cases e : q = i
          · rw [e] at h3; exact absurd h3 h
          · omega
  rw [key _ k 0 false (Int.le_refl 0) rfl (by omega) (by omega)]; rfl
noncomputable def leastV (Z : List Zn) : Nat → Int → Int
  | 0, f => f
  | n + 1, f => leastV Z n (bif dc (thereP Z ((n : Int) + 2)) then f else (n : Int) + 2)
theorem leastV_all (Z : List Zn) : ∀ (n : Nat) (f : Int), (∀ q : Int, 2 ≤ q → q < n + 2 → thereP Z q) → leastV Z n f = f := by
  intro n
  induction n with
  | zero => intro f _; rfl
  | succ n ih => intro f h; unfold leastV; rw [dc_t (h ((n : Int) + 2) (by omega) (by omega)), cond_true]; exact ih f (fun q h1 h2 => h q h1 (by omega))
theorem leastV_first (Z : List Zn) : ∀ (n : Nat) (f q : Int), 2 ≤ q → q < n + 2 → ¬ thereP Z q → (∀ u, 2 ≤ u → u < q → thereP Z u) → leastV Z n f = q := by
  intro n
  induction n with
  | zero => intro f q h1 h2; omega
  | succ n ih =>
    intro f q h1 h2 h3 h4
    unfold leastV
    by_cases e : q = (n : Int) + 2
    · rw [dc_f (by rw [← e]; exact h3), cond_false, leastV_all Z n _ (fun u u1 u2 => h4 u u1 (by omega)), e]
    · exact ih _ q h1 (by omega) h3 h4
section
variable {a0 a1 a2 a3 a4 : Int}
theorem l20_val {R : Type} (e0 : Int → Option R) (k : Nat) (hk : 2000 ≤ k) (g : GG a0 a1 a2 a3 a4) (Z : List Zn) (hZ : Z.length ≤ 1000) : ∀ (n j : Nat) (f : Int), n < 1000 → n < j → corbellaw10_BookNotes_l20 e0 k a0 a1 a2 a3 a4 Z j f ((n : Int) + 1) = e0 (leastV Z n f) := by
  intro n
  induction n with
  | zero =>
    intro j f _ hj
    obtain ⟨j, rfl⟩ : ∃ u, j = u + 1 := ⟨j - 1, by omega⟩
    rw [corbellaw10_BookNotes_l20]; unfold corbellaw10_BookNotes_l20s
    rw [decide_eq_false (by omega)]; rfl
  | succ n ih =>
    intro j f hn hj
    obtain ⟨j, rfl⟩ : ∃ u, j = u + 1 := ⟨j - 1, by omega⟩
    rw [corbellaw10_BookNotes_l20]; unfold corbellaw10_BookNotes_l20s
    rw [decide_eq_true (show (2 : Int) ≤ ((n + 1 : Nat) : Int) + 1 by omega), cond_true, refgood_val, decide_eq_true g, optb_some, cond_true, l21_val _ k hk _ Z hZ, show ((n + 1 : Nat) : Int) + 1 = (n : Int) + 2 by omega, w64 (n := (n : Int) + 2 - 1) (by omega) (by omega), show (n : Int) + 2 - 1 = (n : Int) + 1 by omega, leastV]
    by_cases h : thereP Z ((n : Int) + 2)
    · rw [dc_t h]; exact ih j f (by omega) (by omega)
    · rw [dc_f h]; exact ih j _ (by omega) (by omega)
theorem free_val (k : Nat) (hk : 2000 ≤ k) (g : GG a0 a1 a2 a3 a4) (Z : List Zn) (hZ : Z.length ≤ 1000) (ba : Int) (bb bd : Bool) (M : List Int) (bf bg : Int) :
    book_Book_Free k ba bb Z bd M bf bg a0 a1 a2 a3 a4 = some (leastV Z (a1 - 2).toNat (-1)) := by
  have h3 := g.2.2.1
  have h4 := g.2.2.2.1
  unfold book_Book_Free
  have inner : ∀ {R : Type} (p : Int) (e0 : Int → Option R) (e1 : Option R), (thereP Z p → ∃ q, 0 ≤ q ∧ book_Book_Free_i71_3_l0 e0 e1 k Z Z.length p k 0 = e0 q) ∧ (¬ thereP Z p → book_Book_Free_i71_3_l0 e0 e1 k Z Z.length p k 0 = e1) := by
    intro R p e0 e1
    rcases loopUp (book_Book_Free_i71_3_l0 e0 e1 k Z Z.length p) 0 Z.length (fun q => (gat (0, 0, 0) Z q).1 ≠ p) e1 e0
      (fun j i i0 i1 hp => by
        rw [book_Book_Free_i71_3_l0]; unfold book_Book_Free_i71_3_l0s
        rw [decide_eq_true i1, decide_eq_true i0, cond_true, cond_true, gat_some (0, 0, 0) i0 i1, optb_some, decide_eq_false hp, cond_false, w64 (by omega) (by omega)])
      (fun j i i0 i1 hp => by
        rw [book_Book_Free_i71_3_l0]; unfold book_Book_Free_i71_3_l0s
        rw [decide_eq_true i1, decide_eq_true i0, cond_true, cond_true, gat_some (0, 0, 0) i0 i1, optb_some, decide_eq_true (Classical.not_not.1 hp), cond_true])
      (fun j i i0 i1 => by
        rw [book_Book_Free_i71_3_l0]; unfold book_Book_Free_i71_3_l0s
        rw [decide_eq_false (by omega), cond_false]) _ k 0 (Int.le_refl 0) rfl (by omega) with ⟨h1, h2⟩ | ⟨q, q0, q1, h1, _, h2⟩
    · exact ⟨fun ⟨q, x0, x1, x2⟩ => absurd x2 (h1 q x0 x1), fun _ => h2⟩
    · exact ⟨fun _ => ⟨q, q0, h2⟩, fun x => absurd ⟨q, q0, q1, Classical.not_not.1 h1⟩ x⟩
  rcases loopUp (book_Book_Free_l0 (fun v => some v) (some (-1)) k Z a1) 2 a1 (thereP Z) (some (-1)) (fun p => some p)
    (fun j i i0 i1 hp => by
      rw [book_Book_Free_l0]; unfold book_Book_Free_l0s
      rw [decide_eq_true i1, cond_true, lenI_eq]
      obtain ⟨q, q0, hq⟩ := (inner i (fun v => bif (!(decide ((0 : Int) ≤ v))) then some i else book_Book_Free_l0 (fun v => some v) (some (-1)) k Z a1 j (wrap64 (i + (1 : Int)))) (some i)).1 hp
      rw [hq, decide_eq_true q0, w64 (n := i + 1) (by omega) (by omega)]; rfl)
    (fun j i i0 i1 hp => by
      rw [book_Book_Free_l0]; unfold book_Book_Free_l0s
      rw [decide_eq_true i1, cond_true, lenI_eq]
      exact (inner i _ (some i)).2 hp)
    (fun j i i0 i1 => by
      rw [book_Book_Free_l0]; unfold book_Book_Free_l0s
      rw [decide_eq_false (by omega), cond_false]) _ k 2 (Int.le_refl 2) rfl (by omega) with ⟨h1, h2⟩ | ⟨q, q0, q1, h1, h5, h2⟩
  · rw [h2, leastV_all Z _ _ (fun q x0 x1 => h1 q x0 (by omega))]
  · rw [h2, leastV_first Z _ _ q q0 (by omega) h1 h5]
theorem has_val (k : Nat) (ba : Int) (bb : Bool) (Z : List Zn) (bd : Bool) (M : List Int) (bf bg s p : Int) :
    book_Book_Has k ba bb Z bd M bf bg s p = some (decide (0 ≤ s) && (decide (s < M.length) && (!(decide (s = bf)) || decide (p < bg)))) := by
  unfold book_Book_Has
  rw [lenI_eq]
  cases decide (0 ≤ s) <;> cases decide (s < (M.length : Int)) <;> cases decide (s = bf) <;> rfl
theorem j19_val (k : Nat) (hk : 2000 ≤ k) (Z : List Zn) (hZ : Z.length ≤ 1000) (ba : Int) (bb bd : Bool) (M : List Int) (bf bg s p : Int) (e0 : Bool → Option Bool) (he : ∀ b, e0 b = some b) (has : Bool) (hh : (decide (0 ≤ s) && (decide (s < M.length) && (!(decide (s = bf)) || decide (p < bg)))) = has) :
    corbellaw10_BookNotes_j19 e0 k s p has a0 a1 a2 a3 a4 a0 a1 a2 a3 a4 ba bb Z bd M bf bg = some true := by
  have tail : ∀ f : Int, (GG a0 a1 a2 a3 a4 → f = leastV Z (a1 - 2).toNat (-1)) → (optb (book_Book_Has k ba bb Z bd M bf bg s p) fun r =>
    bif (r == has) then
      optb (corbelref04_Good k a0 a1 a2 a3 a4) fun r =>
      bif (!r) then e0 true
      else optb (book_Book_Free k ba bb Z bd M bf bg a0 a1 a2 a3 a4) fun r => e0 (decide (r = f))
    else e0 false) = some true := by
    intro f hf
    rw [has_val, optb_some, hh, beq_self_eq_true, cond_true, refgood_val, optb_some]
    by_cases g : GG a0 a1 a2 a3 a4
    · rw [decide_eq_true g, Bool.not_true, cond_false, free_val k hk g Z hZ, optb_some, decide_eq_true (hf g).symm, he]
    · rw [decide_eq_false g, Bool.not_false, cond_true, he]
  unfold corbellaw10_BookNotes_j19
  by_cases g : GG a0 a1 a2 a3 a4
  · have h3 := g.2.2.1
    have h4 := g.2.2.2.1
    rw [w64 (n := a1 - 1) (by omega) (by omega), show a1 - 1 = (((a1 - 2).toNat : Nat) : Int) + 1 by omega]
    refine (l20_val _ k hk g Z hZ (a1 - 2).toNat k (-1) (by omega) (by omega)).trans ?_
    exact tail _ (fun _ => rfl)
  · obtain ⟨j, hj⟩ : ∃ u, k = u + 1 := ⟨k - 1, by omega⟩
    have go : ∀ (e : Int → Option Bool) (f p : Int), corbellaw10_BookNotes_l20 e k a0 a1 a2 a3 a4 Z (j + 1) f p = e f := by
      intro e f p
      rw [corbellaw10_BookNotes_l20]; unfold corbellaw10_BookNotes_l20s
      rw [refgood_val, decide_eq_false g]
      cases decide ((2 : Int) ≤ p) <;> rfl
    have := go (fun free_68368 => optb (book_Book_Has k ba bb Z bd M bf bg s p) fun r =>
      bif (r == has) then
        optb (corbelref04_Good k a0 a1 a2 a3 a4) fun r =>
        bif (!r) then e0 true
        else optb (book_Book_Free k ba bb Z bd M bf bg a0 a1 a2 a3 a4) fun r => e0 (decide (r = free_68368))
      else e0 false) (-1) (wrap64 (a1 - 1))
    rw [← hj] at this
    exact this.trans (tail (-1) (fun x => absurd x g))
end
theorem new_l0 {R : Type} (e0 : List Zn → Option R) (k : Nat) {v : Int} (hv : v ≤ 1000) : ∀ (u j : Nat) (i : Int) (b : List Zn), 0 ≤ i → (v - i).toNat = u → u < j → b.length + u ≤ 5000 → ∃ Z, book_New_l0 e0 k v j i b = e0 Z ∧ Z.length ≤ b.length + u := by
  intro u
  induction u with
  | zero =>
    intro j i b i0 hu hj hb
    obtain ⟨j, rfl⟩ : ∃ u, j = u + 1 := ⟨j - 1, by omega⟩
    refine ⟨b, ?_, by omega⟩
    rw [book_New_l0]; unfold book_New_l0s
    rw [decide_eq_false (by omega), cond_false]
  | succ u ih =>
    intro j i b i0 hu hj hb
    obtain ⟨j, rfl⟩ : ∃ u, j = u + 1 := ⟨j - 1, by omega⟩
    obtain ⟨Z, e, hZ⟩ := ih j (i + 1) (b ++ [(wrap64 (i + 2), ((1 : Int), (0 : Int)))]) (by omega) (by omega) (by omega) (by rw [List.length_append, List.length_singleton]; omega)
    refine ⟨Z, ?_, by rw [List.length_append, List.length_singleton] at hZ; omega⟩
    rw [book_New_l0]; unfold book_New_l0s
    rw [decide_eq_true (show i < v by omega), cond_true, List.length_singleton, decide_eq_true (show b.length + 1 ≤ 1099511627776 by omega), cond_true, w64 (n := i + 1) (by omega) (by omega)]
    exact e
theorem new_l1 {R : Type} (e0 : List Int → Option R) (k : Nat) {v : Int} (hv : v ≤ 1000) : ∀ (u j : Nat) (i : Int) (b : List Int), 0 ≤ i → (v - i).toNat = u → u < j → b.length + u ≤ 5000 → ∃ Z, book_New_l1 e0 k v j i b = e0 Z ∧ Z.length ≤ b.length + u := by
  intro u
  induction u with
  | zero =>
    intro j i b i0 hu hj hb
    obtain ⟨j, rfl⟩ : ∃ u, j = u + 1 := ⟨j - 1, by omega⟩
    refine ⟨b, ?_, by omega⟩
    rw [book_New_l1]; unfold book_New_l1s
    rw [decide_eq_false (by omega), cond_false]
  | succ u ih =>
    intro j i b i0 hu hj hb
    obtain ⟨j, rfl⟩ : ∃ u, j = u + 1 := ⟨j - 1, by omega⟩
    obtain ⟨Z, e, hZ⟩ := ih j (i + 1) (b ++ [i]) (by omega) (by omega) (by omega) (by rw [List.length_append, List.length_singleton]; omega)
    refine ⟨Z, ?_, by rw [List.length_append, List.length_singleton] at hZ; omega⟩
    rw [book_New_l1]; unfold book_New_l1s
    rw [decide_eq_true (show i < v by omega), cond_true, List.length_singleton, decide_eq_true (show b.length + 1 ≤ 1099511627776 by omega), cond_true, w64 (n := i + 1) (by omega) (by omega)]
    exact e
section
variable {a0 a1 a2 a3 a4 : Int}
theorem new_val (k : Nat) (hk : 2000 ≤ k) : ∃ (Z : List Zn) (M : List Int), book_New k a0 a1 a2 a3 a4 = some (0, ((true, Z), ((true, M), (-1, 0)))) ∧ Z.length ≤ 1000 ∧ M.length ≤ 1000 := by
  unfold book_New
  by_cases g : GG a0 a1 a2 a3 a4
  · have g' := g
    obtain ⟨h1, h2, h3, h4, _⟩ := g'
    rw [zones_yes k g, optb_some]
    generalize he : (fun b : List Zn => optb (geom_Good k a0 a1 a2 a3 a4) fun r => bif r then book_New_l1 (fun b_7975 => book_New_j2 (some ((0 : Int), ((true, b), ((true, b_7975), ((-1 : Int), (0 : Int)))))) k) k a0 k (0 : Int) ([] : List Int) else book_New_j2b (some ((0 : Int), ((true, b), ((true, ([] : List Int)), ((-1 : Int), (0 : Int)))))) k) = e0
    obtain ⟨Z, e, hZ⟩ := new_l0 e0 k (v := a1 - 3) (by omega) _ k 0 [] (Int.le_refl 0) rfl (by omega) (by rw [List.length_nil]; omega)
    obtain ⟨M, e', hM⟩ := new_l1 (fun b_7975 => book_New_j2 (some ((0 : Int), ((true, Z), ((true, b_7975), ((-1 : Int), (0 : Int)))))) k) k (v := a0) (by omega) _ k 0 [] (Int.le_refl 0) rfl (by omega) (by rw [List.length_nil]; omega)
    rw [List.length_nil] at hZ hM
    refine ⟨Z, M, ?_, by omega, by omega⟩
    rw [e, ← he]
    simp only
    rw [good_val, optb_some, decide_eq_true g, cond_true, e']; rfl
  · rw [zones_no k g, optb_some]
    refine ⟨[], [], ?_, by simp, by simp⟩
    obtain ⟨j, rfl⟩ : ∃ u, k = u + 1 := ⟨k - 1, by omega⟩
    rw [book_New_l0]; unfold book_New_l0s
    rw [decide_eq_false (by omega), cond_false, good_val, decide_eq_false g]; rfl
theorem given_l1 {R : Type} (e0 : List Rcd → List Rcd → Option R) (k : Nat) (hk : 2000 ≤ k) (ls : List (Bool × List (Int × (Int × (Int × (Int × (Int × Int))))))) (x : Bool × List (Int × (Int × (Int × (Int × (Int × Int)))))) (hx : ls[(0 : Int).toNat]? = some x) : ∀ (u j i : Nat) (a b : List Rcd), 100 - i = u → i ≤ 100 → u < j → a.length = i → b.length = i →
    ∃ A B, corbellaw10_given_l1 e0 k ls 0 j i a b = e0 A B ∧ A.length ≤ 100 := by
  intro u
  induction u with
  | zero =>
    intro j i a b hu hi hj ha hb
    obtain ⟨j, rfl⟩ : ∃ u, j = u + 1 := ⟨j - 1, by omega⟩
    refine ⟨a, b, ?_, by omega⟩
    rw [corbellaw10_given_l1]; unfold corbellaw10_given_l1s
    rw [decide_eq_true (Int.le_refl 0), cond_true, hx, optb_some, decide_eq_false (show ¬ (i : Int) < 100 by omega)]
    cases decide ((i : Int) < lenI x.2) <;> rfl
  | succ u ih =>
    intro j i a b hu hi hj ha hb
    obtain ⟨j, rfl⟩ : ∃ u, j = u + 1 := ⟨j - 1, by omega⟩
    rw [corbellaw10_given_l1]; unfold corbellaw10_given_l1s corbellaw10_given_j2
    rw [decide_eq_true (Int.le_refl 0), cond_true, hx, optb_some, lenI_eq]
    by_cases hl : (i : Int) < x.2.length
    · have hil : i < x.2.length := by omega
      have hr := List.getElem?_eq_getElem hil
      generalize x.2[i] = r at hr
      rw [decide_eq_true hl, decide_eq_true (show (i : Int) < 100 by omega), decide_eq_true (show (0 : Int) ≤ i by omega), Int.toNat_natCast]
      simp only [cond_true]
      rw [optb_some, hr, optb_some]
      simp only [List.length_singleton]
      generalize hv : ((wrap64 (3 + bitop .and .i64 r.1 3), (bitop .and .i64 r.2.1 1099511627775, (bitop .and .i64 r.2.2.1 65535, (bitop .and .i64 r.2.2.2.1 65535, (bitop .and .i64 r.2.2.2.2.1 1099511627775, (bitop .and .i64 r.2.2.2.2.2 65535, (⟨#[]⟩ : ByteArray))))))) : Rcd) = v
      have hz : (a ++ [v])[i]? = some v := by rw [← ha]; simp
      rw [lenI_eq, decide_eq_true (show a.length + 1 ≤ 1099511627776 by omega), cond_true, List.length_append, List.length_singleton, decide_eq_true (show (i : Int) < ((a.length + 1 : Nat) : Int) by omega), hz]
      simp only [Bool.and_self, cond_true]
      rw [optb_some, decide_eq_true (show b.length + 1 ≤ 1099511627776 by omega), cond_true, w64 (n := (i : Int) + 1) (by omega) (by omega)]
      exact ih j (i + 1) (a ++ [v]) _ (by omega) (by omega) (by omega) (by rw [List.length_append, List.length_singleton, ha]) (by rw [List.length_append, List.length_singleton, hb])
    · refine ⟨a, b, ?_, by omega⟩
      rw [decide_eq_false hl]; rfl
theorem given_val (k : Nat) (hk : 2000 ≤ k) (x : Bool × List (Int × (Int × (Int × (Int × (Int × Int)))))) : ∃ A B, corbellaw10_given k false [x] = some ((true, [(true, A)]), (true, [(true, B)])) ∧ A.length ≤ 100 := by
  unfold corbellaw10_given
  obtain ⟨j, hj⟩ : ∃ u, k = u + 2 := ⟨k - 2, by omega⟩
  have hx : [x][(0 : Int).toNat]? = some x := rfl
  generalize he : (fun a_8878 b_8880 => some ((true, a_8878), (true, b_8880)) : List (Bool × List Rcd) → List (Bool × List Rcd) → Option ((Bool × List (Bool × List Rcd)) × (Bool × List (Bool × List Rcd)))) = e0
  have step : ∃ A B, corbellaw10_given_l0 e0 k [x] (j + 2) 0 [] [] = corbellaw10_given_l0 e0 k [x] (j + 1) 1 [(true, A)] [(true, B)] ∧ A.length ≤ 100 := by
    obtain ⟨A, B, e, hA⟩ := given_l1 (fun x_8872 y_8874 =>
        bif (decide (([] : List (Bool × List Rcd)).length + ([(true, x_8872)] : List (Bool × List Rcd)).length ≤ 1099511627776)) then
          bif (decide (([] : List (Bool × List Rcd)).length + ([(true, y_8874)] : List (Bool × List Rcd)).length ≤ 1099511627776)) then
            corbellaw10_given_l0 e0 k [x] (j + 1) (wrap64 (0 + (1 : Int))) (([] : List (Bool × List Rcd)) ++ ([(true, x_8872)] : List (Bool × List Rcd))) (([] : List (Bool × List Rcd)) ++ ([(true, y_8874)] : List (Bool × List Rcd)))
          else none
        else none) k hk [x] x hx 100 k 0 [] [] rfl (by omega) (by omega) rfl rfl
    refine ⟨A, B, ?_, hA⟩
    rw [corbellaw10_given_l0]; unfold corbellaw10_given_l0s
    rw [show decide ((0 : Int) < lenI [x]) = true from rfl, show decide ((0 : Int) < 8) = true from rfl, cond_true, cond_true]
    refine e.trans ?_
    rw [decide_eq_true (show ([] : List (Bool × List Rcd)).length + ([(true, A)] : List (Bool × List Rcd)).length ≤ 1099511627776 by simp), decide_eq_true (show ([] : List (Bool × List Rcd)).length + ([(true, B)] : List (Bool × List Rcd)).length ≤ 1099511627776 by simp), w64 (n := (0 : Int) + 1) (by omega) (by omega)]
    rfl
  obtain ⟨A, B, e, hA⟩ := step
  refine ⟨A, B, ?_, hA⟩
  rw [← hj] at e
  rw [e, corbellaw10_given_l0]; unfold corbellaw10_given_l0s
  rw [show decide ((1 : Int) < lenI [x]) = false from rfl, cond_false, ← he]
theorem speaks10 (d : Nat) : corbellaw10_speaks (d + 300) = some true := by kernel_rfl
theorem notes_main (a0 a1 a2 a3 a4 : Int) (ma : Bool) (ml : List (Int × (Int × (Int × (Int × (Int × Int)))))) (s p : Int) : corbellaw10_BookNotes (9700 + 300) a0 a1 a2 a3 a4 ma ml s p = some true := by
  unfold corbellaw10_BookNotes
  rw [speaks10, optb_some]
  generalize hk : 9700 + 300 = k
  obtain ⟨Z, M, hn, hZ, hM⟩ := @new_val a0 a1 a2 a3 a4 k (by omega)
  obtain ⟨A, B, hg, hA⟩ := given_val k (by omega) (ma, ml)
  rw [Bool.not_true, cond_false, hn, optb_some, optb_some, hg, optb_some]
  unfold corbellaw10_BookNotes_j0
  rw [show decide ((0 : Int) < lenI [(true, A)]) = true from rfl, cond_true, cond_true, show ([(true, A)] : List (Bool × List Rcd))[(0 : Int).toNat]? = some (true, A) from rfl, optb_some]
  unfold corbellaw10_BookNotes_j1
  refine l2_val _ _ k (by omega) A (by omega) Z M hZ hM (fun r => r = some true) (fun ba bb Z' bd M' bf bg hz hm => ?_) A.length k 0 0 true Z true M (-1) 0 (by omega) (by omega) (by omega) rfl rfl
  rw [hn, optb_some]
  simp only [decide_true, Bool.not_true, cond_false, corbellaw10_BookNotes_j18, corbellaw10_BookNotes_k7]
  have hj := fun has hh => j19_val (a0 := a0) (a1 := a1) (a2 := a2) (a3 := a3) (a4 := a4) k (by omega) Z' (by omega) ba bb bd M' bf bg s p (corbellaw10_BookNotes_k9 (fun v => some v) k) (fun b => rfl) has hh
  rw [lenI_eq]
  by_cases c1 : 0 ≤ s
  · rw [decide_eq_true c1] at hj ⊢
    by_cases c2 : s < (M'.length : Int)
    · rw [decide_eq_true c2] at hj ⊢
      by_cases c3 : s = bf
      · rw [decide_eq_true c3] at hj ⊢
        exact hj _ (by simp)
      · rw [decide_eq_false c3] at hj ⊢
        exact hj _ (by simp)
    · rw [decide_eq_false c2] at hj ⊢
      exact hj _ (by simp)
  · rw [decide_eq_false c1] at hj ⊢
    exact hj _ (by simp)
end
theorem BookNotes : BookNotesPure := fun x0 x1 x2 _ _ _ => ⟨9700 + 300, notes_main _ _ _ _ _ _ _ _ _⟩
end Go.Proofs.Ythilffdaofaalaa.Pure
