/- RebuildEnds: the pure statement, over numbers and lists alone; no conditions. -/
import Derived.Test.YthilffdaofaalaaStatRebuildEnds
set_option linter.unusedVariables false
set_option linter.unusedSimpArgs false
namespace Go.Proofs.Ythilffdaofaalaa.Pure
open Go Go.RowKit Go.Proofs.Ythilffdaofaalaa.Ev
/-! ### whole numbers -/
theorem wf_i64 {n : Int} (h : Ty.wf (.int .i64) n) : -9223372036854775808 ≤ n ∧ n ≤ 9223372036854775807 := by
  have h : (Lit.int .i64 n).wf = true := h
  simpa [Lit.wf, IntKind.min, IntKind.max, IntKind.signed, IntKind.bits] using h
theorem w64 {n : Int} (h0 : -9223372036854775808 ≤ n) (h1 : n ≤ 9223372036854775807) : wrap64 n = n := by unfold wrap64; omega
theorem tdiv_pos {a b : Int} (ha : 0 ≤ a) : Int.tdiv a b = a / b := Int.tdiv_eq_ediv_of_nonneg ha
theorem tmod_pos {a b : Int} (ha : 0 ≤ a) : Int.tmod a b = a % b := Int.tmod_eq_emod_of_nonneg ha
theorem bytesOf_append (a b : List Int) : bytesOf a ++ bytesOf b = bytesOf (a ++ b) := by
  apply ByteArray.ext
  simp [bytesOf]
theorem cond_t {α : Type} {c : Bool} {a b : α} (h : c = true) : (bif c then a else b) = a := by rw [h]; rfl
theorem cond_f {α : Type} {c : Bool} {a b : α} (h : c = false) : (bif c then a else b) = b := by rw [h]; rfl
/-! ### the shape of an array of drives -/
def GG (a0 a1 a2 a3 a4 : Int) : Prop := 3 ≤ a0 ∧ a0 ≤ 16 ∧ 5 ≤ a1 ∧ a1 ≤ 64 ∧ 4 ≤ a2 ∧ a2 ≤ 256 ∧ 1 ≤ a3 ∧ a3 ≤ a4 ∧ a4 ≤ a1
instance (a0 a1 a2 a3 a4 : Int) : Decidable (GG a0 a1 a2 a3 a4) := by unfold GG; infer_instance
theorem within_val (k : Nat) (n l h : Int) : geom_within k n l h = some (decide (l ≤ n ∧ n ≤ h)) := by
  unfold geom_within
  by_cases a : l ≤ n <;> simp [a]
theorem good_val (k : Nat) (a0 a1 a2 a3 a4 : Int) : geom_Good k a0 a1 a2 a3 a4 = some (decide (GG a0 a1 a2 a3 a4)) := by
  unfold geom_Good
  simp only [within_val, optb]
  by_cases h1 : 3 ≤ a0 ∧ a0 ≤ 16 <;> by_cases h2 : 5 ≤ a1 ∧ a1 ≤ 64 <;> by_cases h3 : 4 ≤ a2 ∧ a2 ≤ 256 <;> by_cases h4 : 1 ≤ a3 ∧ a3 ≤ a4 <;> simp only [h1, h2, h3, h4, decide_true, decide_false, cond_true, cond_false, Option.some.injEq, decide_eq_decide, and_self] <;> first | (unfold GG; omega) | (symm; rw [decide_eq_false_iff_not]; unfold GG; omega)
theorem refgood_val (k : Nat) (a0 a1 a2 a3 a4 : Int) : corbelref04_Good k a0 a1 a2 a3 a4 = some (decide (GG a0 a1 a2 a3 a4)) := by
  unfold corbelref04_Good corbelref04_Good_j0 corbelref04_Good_k0 corbelref04_Good_k1
  by_cases h1 : a0 < 3 <;> by_cases h2 : 16 < a0 <;> by_cases h3 : a1 < 5 <;> by_cases h4 : 64 < a1 <;> by_cases h5 : a2 < 4 <;> by_cases h6 : 256 < a2 <;> by_cases h7 : 0 < a3 <;> by_cases h8 : a3 ≤ a4 <;>
    simp only [h1, h2, h3, h4, h5, h6, h7, h8, decide_true, decide_false, cond_true, cond_false, Option.some.injEq, decide_eq_decide] <;> first | (unfold GG; omega) | (symm; rw [decide_eq_false_iff_not]; unfold GG; omega)
section
variable {a0 a1 a2 a3 a4 : Int}
theorem zones_yes (k : Nat) (h : GG a0 a1 a2 a3 a4) : geom_Zones k a0 a1 a2 a3 a4 = some (a1 - 3) := by
  unfold geom_Zones
  rw [good_val, decide_eq_true h]
  obtain ⟨_, _, h1, h2, _⟩ := h
  show some _ = _
  rw [w64 (n := a1 - 2) (by omega) (by omega), w64 (by omega) (by omega)]
  congr 1; omega
theorem zones_no (k : Nat) (h : ¬ GG a0 a1 a2 a3 a4) : geom_Zones k a0 a1 a2 a3 a4 = some 0 := by
  unfold geom_Zones
  rw [good_val, decide_eq_false h]; rfl
end
/-! ### loops over whole numbers -/
noncomputable def dc (P : Prop) : Bool := @decide P (Classical.propDecidable P)
theorem dc_t {P : Prop} (h : P) : dc P = true := @decide_eq_true P (Classical.propDecidable P) h
theorem dc_f {P : Prop} (h : ¬ P) : dc P = false := @decide_eq_false P (Classical.propDecidable P) h
theorem dc_iff {P : Prop} : dc P = true ↔ P := ⟨fun h => @of_decide_eq_true P (Classical.propDecidable P) h, dc_t⟩
theorem dc_congr {P Q : Prop} (h : P ↔ Q) : dc P = dc Q := by rw [propext h]
theorem dc_dec {P : Prop} [Decidable P] : decide P = dc P := by
  by_cases h : P
  · rw [decide_eq_true h, dc_t h]
  · rw [decide_eq_false h, dc_f h]
theorem dc_and (P Q : Prop) : (dc P && dc Q) = dc (P ∧ Q) := by
  by_cases h : P
  · by_cases h2 : Q
    · rw [dc_t h, dc_t h2, dc_t ⟨h, h2⟩]; rfl
    · rw [dc_f h2, dc_f (fun x : P ∧ Q => h2 x.2), Bool.and_false]
  · rw [dc_f h, dc_f (fun x : P ∧ Q => h x.1)]; rfl
/-- up to the first number without `P` -/
theorem loopUp {R : Type} (f : Nat → Int → Option R) (lo to : Int) (P : Int → Prop) (yes : Option R) (no : Int → Option R)
    (hs : ∀ j i, lo ≤ i → i < to → P i → f (j + 1) i = f j (i + 1)) (hn : ∀ j i, lo ≤ i → i < to → ¬ P i → f (j + 1) i = no i) (he : ∀ j i, lo ≤ i → to ≤ i → f (j + 1) i = yes) :
    ∀ n j i, lo ≤ i → (to - i).toNat = n → n < j → ((∀ q, i ≤ q → q < to → P q) ∧ f j i = yes) ∨ (∃ q, i ≤ q ∧ q < to ∧ ¬ P q ∧ (∀ u, i ≤ u → u < q → P u) ∧ f j i = no q) := by
  intro n
  induction n with
  | zero =>
    intro j i hl h hj
    obtain ⟨j, rfl⟩ : ∃ u, j = u + 1 := ⟨j - 1, by omega⟩
    exact .inl ⟨fun q h1 h2 => absurd h2 (by omega), he j i hl (by omega)⟩
  | succ n ih =>
    intro j i hl h hj
    obtain ⟨j, rfl⟩ : ∃ u, j = u + 1 := ⟨j - 1, by omega⟩
    by_cases hp : P i
    · rw [hs j i hl (by omega) hp]
      rcases ih j (i + 1) (by omega) (by omega) (by omega) with ⟨h1, h2⟩ | ⟨q, h1, h2, h3, h4, h5⟩
      · refine .inl ⟨fun q h3 h4 => ?_, h2⟩
        by_cases e : q = i
        · rw [e]; exact hp
        · exact h1 q (by omega) h4
      · refine .inr ⟨q, by omega, h2, h3, fun u h6 h7 => ?_, h5⟩
        by_cases e : u = i
        · rw [e]; exact hp
        · exact h4 u (by omega) h7
    · exact .inr ⟨i, by omega, by omega, hp, fun u h1 h2 => absurd h2 (by omega), hn j i hl (by omega) hp⟩
/-- the same, for a loop that ends where it should -/
theorem loopTo {R : Type} (f : Nat → Int → Option R) (lo to : Int) (P : Int → Prop) (yes : Option R) (no : Int → Option R)
    (hs : ∀ j i, lo ≤ i → i < to → P i → f (j + 1) i = f j (i + 1)) (hn : ∀ j i, lo ≤ i → i < to → ¬ P i → f (j + 1) i = no i) (he : ∀ j, f (j + 1) to = yes) :
    ∀ n j i, lo ≤ i → i ≤ to → (to - i).toNat = n → n < j → ((∀ q, i ≤ q → q < to → P q) ∧ f j i = yes) ∨ (∃ q, i ≤ q ∧ q < to ∧ ¬ P q ∧ (∀ u, i ≤ u → u < q → P u) ∧ f j i = no q) := by
  intro n
  induction n with
  | zero =>
    intro j i hl hle h hj
    obtain ⟨j, rfl⟩ : ∃ u, j = u + 1 := ⟨j - 1, by omega⟩
    exact .inl ⟨fun q h1 h2 => absurd h2 (by omega), by rw [show i = to by omega]; exact he j⟩
  | succ n ih =>
    intro j i hl hle h hj
    obtain ⟨j, rfl⟩ : ∃ u, j = u + 1 := ⟨j - 1, by omega⟩
    by_cases hp : P i
    · rw [hs j i hl (by omega) hp]
      rcases ih j (i + 1) (by omega) (by omega) (by omega) (by omega) with ⟨h1, h2⟩ | ⟨q, h1, h2, h3, h4, h5⟩
      · refine .inl ⟨fun q h3 h4 => ?_, h2⟩
        by_cases e : q = i
        · rw [e]; exact hp
        · exact h1 q (by omega) h4
      · refine .inr ⟨q, by omega, h2, h3, fun u h6 h7 => ?_, h5⟩
        by_cases e : u = i
        · rw [e]; exact hp
        · exact h4 u (by omega) h7
    · exact .inr ⟨i, by omega, by omega, hp, fun u h1 h2 => absurd h2 (by omega), hn j i hl (by omega) hp⟩
theorem loopAll {R : Type} (f : Nat → Int → Option R) (lo to : Int) (P : Int → Prop) (yes no : Option R)
    (hs : ∀ j i, lo ≤ i → i < to → P i → f (j + 1) i = f j (i + 1)) (hn : ∀ j i, lo ≤ i → i < to → ¬ P i → f (j + 1) i = no) (he : ∀ j i, lo ≤ i → to ≤ i → f (j + 1) i = yes)
    (j : Nat) (i : Int) (hl : lo ≤ i) (hj : (to - i).toNat < j) : f j i = bif dc (∀ q, i ≤ q → q < to → P q) then yes else no := by
  rcases loopUp f lo to P yes (fun _ => no) hs hn he _ j i hl rfl hj with ⟨h1, h2⟩ | ⟨q, h1, h2, h3, _, h5⟩
  · rw [dc_t h1, h2]; rfl
  · rw [dc_f (fun h => h3 (h q h1 h2)), h5]; rfl
/-- the last number below `n` with `P` -/
noncomputable def lastI (P : Int → Prop) : Nat → Int
  | 0 => -1
  | n + 1 => bif dc (P n) then n else lastI P n
theorem lastI_lt (P : Int → Prop) (n : Nat) : -1 ≤ lastI P n ∧ lastI P n < n := by
  induction n with
  | zero => exact ⟨Int.le_refl (-1), by show (-1 : Int) < 0; decide⟩
  | succ n ih =>
    unfold lastI
    cases dc (P n) with
    | true => rw [cond_true]; omega
    | false => rw [cond_false]; omega
theorem lastI_yes (P : Int → Prop) (n : Nat) (h : 0 ≤ lastI P n) : P (lastI P n) := by
  induction n with
  | zero => exact absurd (show (0 : Int) ≤ -1 from h) (by decide)
  | succ n ih =>
    unfold lastI at h ⊢
    by_cases hp : P n
    · rw [dc_t hp]; exact hp
    · rw [dc_f hp] at h ⊢; exact ih h
theorem lastI_no (P : Int → Prop) (n : Nat) : 0 ≤ lastI P n ↔ ∃ q : Nat, q < n ∧ P q := by
  induction n with
  | zero => exact ⟨fun h => absurd (show (0 : Int) ≤ -1 from h) (by decide), fun ⟨q, h, _⟩ => absurd h (by omega)⟩
  | succ n ih =>
    unfold lastI
    by_cases hp : P n
    · rw [dc_t hp]; exact ⟨fun _ => ⟨n, by omega, hp⟩, fun _ => by rw [cond_true]; omega⟩
    · rw [dc_f hp, cond_false, ih]
      refine ⟨fun ⟨q, h1, h2⟩ => ⟨q, by omega, h2⟩, fun ⟨q, h1, h2⟩ => ⟨q, ?_, h2⟩⟩
      by_cases e : q = n
      · rw [e] at h2; exact absurd h2 hp
      · omega
theorem lastI_congr {P Q : Int → Prop} (n : Nat) (h : ∀ q : Nat, q < n → (P q ↔ Q q)) : lastI P n = lastI Q n := by
  induction n with
  | zero => rfl
  | succ n ih => unfold lastI; rw [dc_congr (h n (by omega)), ih (fun q hq => h q (by omega))]
theorem loopDown {R : Type} (f : Nat → Int → Option R) (N : Nat) (P : Int → Prop) (yes : Int → Option R) (no : Option R)
    (hy : ∀ j (i : Nat), i < N → P i → f (j + 1) i = yes i) (hn : ∀ j (i : Nat), i < N → ¬ P i → f (j + 1) i = f j (i - 1)) (he : ∀ j, f (j + 1) (-1) = no) :
    ∀ n j, n ≤ N → n < j → f j (n - 1) = bif decide (0 ≤ lastI P n) then yes (lastI P n) else no := by
  intro n
  induction n with
  | zero =>
    intro j _ hj
    obtain ⟨j, rfl⟩ : ∃ u, j = u + 1 := ⟨j - 1, by omega⟩
    exact he j
  | succ n ih =>
    intro j hN hj
    obtain ⟨j, rfl⟩ : ∃ u, j = u + 1 := ⟨j - 1, by omega⟩
    rw [show ((n + 1 : Nat) : Int) - 1 = (n : Int) by omega]
    unfold lastI
    by_cases hp : P n
    · rw [hy j n (by omega) hp, dc_t hp, cond_true, decide_eq_true (by omega)]; rfl
    · rw [hn j n (by omega) hp, dc_f hp, cond_false]; exact ih j (by omega) (by omega)
/-- a state that is carried along -/
def foldI {S : Type} (g : Int → S → S) : Nat → Int → S → S
  | 0, _, s => s
  | n + 1, i, s => foldI g n (i + 1) (g i s)
theorem loopFold {R S : Type} (f : Nat → S → Int → Option R) (lo to : Int) (g : Int → S → S) (e : S → Option R)
    (hs : ∀ j s i, lo ≤ i → i < to → f (j + 1) s i = f j (g i s) (i + 1)) (he : ∀ j s i, lo ≤ i → to ≤ i → f (j + 1) s i = e s) :
    ∀ n j s i, lo ≤ i → (to - i).toNat = n → n < j → f j s i = e (foldI g n i s) := by
  intro n
  induction n with
  | zero =>
    intro j s i hl h hj
    obtain ⟨j, rfl⟩ : ∃ u, j = u + 1 := ⟨j - 1, by omega⟩
    exact he j s i hl (by omega)
  | succ n ih =>
    intro j s i hl h hj
    obtain ⟨j, rfl⟩ : ∃ u, j = u + 1 := ⟨j - 1, by omega⟩
    rw [hs j s i hl (by omega), ih j _ _ (by omega) (by omega) (by omega)]; rfl
theorem foldI_and (P : Int → Prop) : ∀ n i a, foldI (fun i a => a && dc (P i)) n i a = (a && dc (∀ q, i ≤ q → q < i + (n : Nat) → P q)) := by
  intro n
  induction n with
  | zero => intro i a; rw [dc_t (fun q h1 h2 => absurd h2 (by omega)), Bool.and_true]; rfl
  | succ n ih =>
    intro i a
    show foldI _ n (i + 1) (a && dc (P i)) = _
    rw [ih, Bool.and_assoc, dc_and]
    congr 1
    refine dc_congr ⟨fun ⟨h, h'⟩ q h1 h2 => ?_, fun h => ⟨h i (by omega) (by omega), fun q h1 h2 => h q (by omega) (by omega)⟩⟩
    by_cases e : q = i
    · rw [e]; exact h
    · exact h' q (by omega) (by omega)
theorem foldI_snoc {S : Type} (g : Int → S → S) : ∀ n i s, foldI g (n + 1) i s = g (i + (n : Nat)) (foldI g n i s) := by
  intro n
  induction n with
  | zero => intro i s; show g i s = g (i + 0) s; rw [Int.add_zero]
  | succ n ih =>
    intro i s
    show foldI g (n + 1) (i + 1) (g i s) = _
    rw [ih]
    show g (i + 1 + (n : Nat)) _ = g (i + ((n + 1 : Nat) : Int)) (foldI g n (i + 1) (g i s))
    congr 1; omega
theorem foldI_last (P : Int → Prop) (n : Nat) : foldI (fun i a => bif dc (P i) then i else a) n 0 (-1) = lastI P n := by
  induction n with
  | zero => rfl
  | succ n ih => rw [foldI_snoc, ih]; show _ = (bif dc (P n) then (n : Int) else lastI P n); rw [Int.zero_add]
/-! ### reading a list -/
def lat (L : List Int) (q : Int) : Int := L.getD q.toNat 0
theorem lat_some {L : List Int} {q : Int} (h0 : 0 ≤ q) (h1 : q < L.length) : L[q.toNat]? = some (lat L q) := by
  have h : q.toNat < L.length := by omega
  unfold lat
  rw [List.getD_eq_getElem?_getD, List.getElem?_eq_getElem h]; rfl
theorem lat_wf {L : List Int} {b : Bool} (h : Ty.wf (.sl (.int .i64)) (b, L)) (q : Int) (h0 : 0 ≤ q) (h1 : q < L.length) : -9223372036854775808 ≤ lat L q ∧ lat L q ≤ 9223372036854775807 := by
  have hm : lat L q ∈ L := by
    have h : q.toNat < L.length := by omega
    unfold lat
    rw [List.getD_eq_getElem?_getD, List.getElem?_eq_getElem h]; exact List.getElem_mem h
  exact wf_i64 (h.2.2 _ hm)
/-! ### a book's records -/
abbrev Zn := Int × (Int × Int)
abbrev Rcd := Int × (Int × (Int × (Int × (Int × (Int × ByteArray)))))
theorem optb_some {α β : Type} (a : α) (f : α → Option β) : optb (some a) f = f a := rfl
def gat {α : Type} (d : α) (L : List α) (q : Int) : α := L.getD q.toNat d
theorem gat_some {α : Type} (d : α) {L : List α} {q : Int} (h0 : 0 ≤ q) (h1 : q < L.length) : L[q.toNat]? = some (gat d L q) := by
  have h : q.toNat < L.length := by omega
  unfold gat
  rw [List.getD_eq_getElem?_getD, List.getElem?_eq_getElem h]; rfl
theorem gat_set {α : Type} (d : α) {L : List α} {i : Int} (h0 : 0 ≤ i) (hi : i < L.length) (v : α) {q : Int} (hq : 0 ≤ q) : gat d (L.set i.toNat v) q = if q = i then v else gat d L q := by
  unfold gat
  rw [List.getD_eq_getElem?_getD, List.getD_eq_getElem?_getD, List.getElem?_set]
  by_cases e : q = i
  · rw [if_pos e, if_pos (by omega), if_pos (by omega)]; rfl
  · rw [if_neg e, if_neg (by omega)]
theorem clone_val (k : Nat) (b : Bool) (L : List Zn) (h : L.length ≤ 1000) : ∃ b', slices_Clone k b L = some (b', L) := by
  unfold slices_Clone
  rw [decide_eq_true (show ([] : List Zn).length + L.length ≤ 1099511627776 by rw [List.length_nil]; omega)]
  cases b with
  | false => exact ⟨false, by simp⟩
  | true =>
    cases L with
    | nil => exact ⟨true, rfl⟩
    | cons x l => exact ⟨false, by simp⟩
theorem clone2_val (k : Nat) (b : Bool) (L : List Int) (h : L.length ≤ 1000) : ∃ b', slices_Clone_68 k b L = some (b', L) := by
  unfold slices_Clone_68
  rw [decide_eq_true (show ([] : List Int).length + L.length ≤ 1099511627776 by rw [List.length_nil]; omega)]
  cases b with
  | false => exact ⟨false, by simp⟩
  | true =>
    cases L with
    | nil => exact ⟨true, rfl⟩
    | cons x l => exact ⟨false, by simp⟩
/-! a record more -/
noncomputable def noteZ (L : List Zn) (xa xc xd xe xf : Int) : List Zn := bif dc (xa = 3 ∧ 0 ≤ xc ∧ xc < L.length) then L.set xc.toNat (xd, xe, xf) else L
noncomputable def noteM (L : List Int) (xa xc xd : Int) : List Int := bif dc (xa = 5 ∧ 0 ≤ xc ∧ xc < L.length) then L.set xc.toNat xd else L
noncomputable def noteS (bf xa xc : Int) : Int := bif decide (xa = 6) then (bif decide (xc = 65535) then -1 else xc) else bf
noncomputable def noteC (bg xa xd : Int) : Int := bif decide (xa = 6) then xd else bg
noncomputable def noteQ (ba xb : Int) : Int := bif (decide (xb > ba)) then xb else ba
theorem noteZ_len (L : List Zn) (xa xc xd xe xf : Int) : (noteZ L xa xc xd xe xf).length = L.length := by
  unfold noteZ
  cases dc _ with
  | true => rw [cond_true, List.length_set]
  | false => rfl
theorem noteM_len (L : List Int) (xa xc xd : Int) : (noteM L xa xc xd).length = L.length := by
  unfold noteM
  cases dc _ with
  | true => rw [cond_true, List.length_set]
  | false => rfl
theorem note_val (k : Nat) (ba : Int) (bb : Bool) (Z : List Zn) (bd : Bool) (M : List Int) (bf bg xa xb xc xd xe xf : Int) (xg : ByteArray) (hZ : Z.length ≤ 1000) (hM : M.length ≤ 1000) :
    ∃ b1 b2, book_Book_Note k ba bb Z bd M bf bg xa xb xc xd xe xf xg = some (noteQ ba xb, ((b1, noteZ Z xa xc xd xe xf), ((b2, noteM M xa xc xd), (noteS bf xa xc, noteC bg xa xd)))) := by
  obtain ⟨b1, h1⟩ := clone_val k bb Z hZ
  obtain ⟨b2, h2⟩ := clone2_val k bd M hM
  refine ⟨b1, b2, ?_⟩
  unfold book_Book_Note
  rw [h1, optb_some, h2, optb_some]
  simp only [book_Book_Note_j0, book_Book_Note_k1, book_Book_Note_j2, book_Book_Note_j1, book_Book_Note_k0, lenI_eq]
  unfold noteZ noteM noteS noteC noteQ
  by_cases c3 : xa = 3
  · subst c3
    rw [decide_eq_false (show ¬ (3 : Int) = 5 by decide), decide_eq_false (show ¬ (3 : Int) = 6 by decide), dc_f (fun x : (3 : Int) = 5 ∧ _ => absurd x.1 (by decide))]
    simp only [decide_true, cond_true, cond_false]
    by_cases c0 : 0 ≤ xc
    · rw [decide_eq_true c0]
      by_cases c1 : xc < Z.length
      · rw [decide_eq_true c1, dc_t ⟨trivial, c0, c1⟩, gat_some (0, 0, 0) c0 c1]; rfl
      · rw [decide_eq_false c1, dc_f (fun x => c1 x.2.2)]; rfl
    · rw [decide_eq_false c0, dc_f (fun x => c0 x.2.1)]; rfl
  · rw [decide_eq_false c3, dc_f (fun x : xa = 3 ∧ _ => c3 x.1)]
    simp only [cond_false]
    by_cases c5 : xa = 5
    · subst c5
      rw [decide_eq_false (show ¬ (5 : Int) = 6 by decide)]
      simp only [decide_true, cond_true, cond_false]
      by_cases c0 : 0 ≤ xc
      · rw [decide_eq_true c0]
        by_cases c1 : xc < M.length
        · rw [decide_eq_true c1, dc_t ⟨trivial, c0, c1⟩, gat_some (0 : Int) c0 c1]; rfl
        · rw [decide_eq_false c1, dc_f (fun x => c1 x.2.2)]; rfl
      · rw [decide_eq_false c0, dc_f (fun x => c0 x.2.1)]; rfl
    · rw [decide_eq_false c5, dc_f (fun x : xa = 5 ∧ _ => c5 x.1)]
      simp only [cond_false]
      by_cases c6 : xa = 6
      · rw [decide_eq_true c6]
        by_cases c7 : xc = 65535
        · rw [decide_eq_true c7]; rfl
        · rw [decide_eq_false c7]; rfl
      · rw [decide_eq_false c6]; rfl
/-! ### a book that is new, and the beginning of a rebuilding -/
theorem lat_app (L : List Int) (x : Int) {q : Int} (h0 : 0 ≤ q) : lat (L ++ [x]) q = if q < L.length then lat L q else if q = L.length then x else 0 := by
  unfold lat
  rw [List.getD_eq_getElem?_getD, List.getD_eq_getElem?_getD]
  by_cases h : q < L.length
  · rw [if_pos h, List.getElem?_append_left (by omega)]
  · rw [if_neg h, List.getElem?_append_right (by omega)]
    by_cases e : q = L.length
    · rw [if_pos e, show q.toNat - L.length = 0 by omega]; rfl
    · rw [if_neg e, List.getElem?_eq_none (by rw [List.length_singleton]; omega)]; rfl
theorem lat_set {L : List Int} {i : Int} (h0 : 0 ≤ i) (hi : i < L.length) (v : Int) {q : Int} (hq : 0 ≤ q) : lat (L.set i.toNat v) q = if q = i then v else lat L q := by
  unfold lat
  rw [List.getD_eq_getElem?_getD, List.getD_eq_getElem?_getD, List.getElem?_set]
  by_cases e : q = i
  · rw [if_pos e, if_pos (by omega), if_pos (by omega)]; rfl
  · rw [if_neg e, if_neg (by omega)]
section
variable {a0 a1 a2 a3 a4 : Int}
theorem newM_loop {R : Type} (e0 : List Int → Option R) (k : Nat) {v : Int} (hv : v ≤ 1000) : ∀ (u j : Nat) (i : Int) (b : List Int), 0 ≤ i → i ≤ v → (v - i).toNat = u → u < j → (b.length : Int) = i → (∀ q, 0 ≤ q → q < i → lat b q = q) → ∃ M, book_New_l1 e0 k v j i b = e0 M ∧ (M.length : Int) = v ∧ ∀ q, 0 ≤ q → q < v → lat M q = q := by
  intro u
  induction u with
  | zero =>
    intro j i b i0 i1 hu hj hb hq
    obtain ⟨j, rfl⟩ : ∃ u, j = u + 1 := ⟨j - 1, by omega⟩
    refine ⟨b, ?_, by omega, fun q q0 q1 => hq q q0 (by omega)⟩
    rw [book_New_l1]; unfold book_New_l1s
    rw [decide_eq_false (by omega), cond_false]
  | succ u ih =>
    intro j i b i0 i1 hu hj hb hq
    obtain ⟨j, rfl⟩ : ∃ u, j = u + 1 := ⟨j - 1, by omega⟩
    obtain ⟨M, e, h1, h2⟩ := ih j (i + 1) (b ++ [i]) (by omega) (by omega) (by omega) (by omega) (by rw [List.length_append, List.length_singleton]; omega) (fun q q0 q1 => by
      rw [lat_app b i q0]
      by_cases h : q < b.length
      · rw [if_pos h]; exact hq q q0 (by omega)
      · rw [if_neg h, if_pos (by omega)]; omega)
    refine ⟨M, ?_, h1, h2⟩
    rw [book_New_l1]; unfold book_New_l1s
    rw [decide_eq_true (show i < v by omega), cond_true, List.length_singleton, decide_eq_true (show b.length + 1 ≤ 1099511627776 by omega), cond_true, w64 (n := i + 1) (by omega) (by omega)]
    exact e
theorem zat_app (L : List Zn) (x : Zn) {q : Int} (h0 : 0 ≤ q) : gat (0, 0, 0) (L ++ [x]) q = if q < L.length then gat (0, 0, 0) L q else if q = L.length then x else (0, 0, 0) := by
  unfold gat
  rw [List.getD_eq_getElem?_getD, List.getD_eq_getElem?_getD]
  by_cases h : q < L.length
  · rw [if_pos h, List.getElem?_append_left (by omega)]
  · rw [if_neg h, List.getElem?_append_right (by omega)]
    by_cases e : q = L.length
    · rw [if_pos e, show q.toNat - L.length = 0 by omega]; rfl
    · rw [if_neg e, List.getElem?_eq_none (by rw [List.length_singleton]; omega)]; rfl
theorem newZ_loop {R : Type} (e0 : List Zn → Option R) (k : Nat) {v : Int} (hv : v ≤ 1000) : ∀ (u j : Nat) (i : Int) (b : List Zn), 0 ≤ i → i ≤ v → (v - i).toNat = u → u < j → (b.length : Int) = i → (∀ q, 0 ≤ q → q < i → gat (0, 0, 0) b q = (q + 2, 1, 0)) → ∃ M, book_New_l0 e0 k v j i b = e0 M ∧ (M.length : Int) = v ∧ ∀ q, 0 ≤ q → q < v → gat (0, 0, 0) M q = (q + 2, 1, 0) := by
  intro u
  induction u with
  | zero =>
    intro j i b i0 i1 hu hj hb hq
    obtain ⟨j, rfl⟩ : ∃ u, j = u + 1 := ⟨j - 1, by omega⟩
    refine ⟨b, ?_, by omega, fun q q0 q1 => hq q q0 (by omega)⟩
    rw [book_New_l0]; unfold book_New_l0s
    rw [decide_eq_false (by omega), cond_false]
  | succ u ih =>
    intro j i b i0 i1 hu hj hb hq
    obtain ⟨j, rfl⟩ : ∃ u, j = u + 1 := ⟨j - 1, by omega⟩
    obtain ⟨M, e, h1, h2⟩ := ih j (i + 1) (b ++ [(i + 2, ((1 : Int), (0 : Int)))]) (by omega) (by omega) (by omega) (by omega) (by rw [List.length_append, List.length_singleton]; omega) (fun q q0 q1 => by
      rw [zat_app b _ q0]
      by_cases h : q < b.length
      · rw [if_pos h]; exact hq q q0 (by omega)
      · rw [if_neg h, if_pos (by omega), show i = q by omega])
    refine ⟨M, ?_, h1, h2⟩
    rw [book_New_l0]; unfold book_New_l0s
    rw [decide_eq_true (show i < v by omega), cond_true, List.length_singleton, decide_eq_true (show b.length + 1 ≤ 1099511627776 by omega), cond_true, w64 (n := i + 1) (by omega) (by omega), w64 (n := i + 2) (by omega) (by omega)]
    exact e
theorem new_is (k : Nat) (hk : 2000 ≤ k) (g : GG a0 a1 a2 a3 a4) : ∃ (Z : List Zn) (M : List Int), book_New k a0 a1 a2 a3 a4 = some (0, ((true, Z), ((true, M), (-1, 0)))) ∧ (Z.length : Int) = a1 - 3 ∧ (∀ q, 0 ≤ q → q < a1 - 3 → gat (0, 0, 0) Z q = (q + 2, 1, 0)) ∧ (M.length : Int) = a0 ∧ ∀ q, 0 ≤ q → q < a0 → lat M q = q := by
  unfold book_New
  have g' := g
  obtain ⟨h1, h2, h3, h4, _⟩ := g'
  rw [zones_yes k g, optb_some]
  generalize he : (fun b : List Zn => optb (geom_Good k a0 a1 a2 a3 a4) fun r => bif r then book_New_l1 (fun b_7975 => book_New_j2 (some ((0 : Int), ((true, b), ((true, b_7975), ((-1 : Int), (0 : Int)))))) k) k a0 k (0 : Int) ([] : List Int) else book_New_j2b (some ((0 : Int), ((true, b), ((true, ([] : List Int)), ((-1 : Int), (0 : Int)))))) k) = e0
  obtain ⟨Z, e, z1, z2⟩ := newZ_loop e0 k (v := a1 - 3) (by omega) _ k 0 [] (Int.le_refl 0) (by omega) rfl (by omega) rfl (fun q q0 q1 => absurd q1 (by omega))
  obtain ⟨M, e', m1, m2⟩ := newM_loop (fun b_7975 => book_New_j2 (some ((0 : Int), ((true, Z), ((true, b_7975), ((-1 : Int), (0 : Int)))))) k) k (v := a0) (by omega) _ k 0 [] (Int.le_refl 0) (by omega) rfl (by omega) rfl (fun q q0 q1 => absurd q1 (by omega))
  refine ⟨Z, M, ?_, z1, z2, m1, m2⟩
  rw [e, ← he]
  simp only
  rw [good_val, optb_some, decide_eq_true g, cond_true, e']; rfl
theorem contains_val (k : Nat) (hk : 2000 ≤ k) (b : Bool) (L : List Int) (hL : L.length ≤ 1000) (v : Int) : slices_Contains k b L v = some (dc (∃ q : Int, 0 ≤ q ∧ q < L.length ∧ lat L q = v)) := by
  unfold slices_Contains slices_Index
  rw [lenI_eq]
  rcases loopUp (slices_Index_l0 (fun v => some v) (some (-1)) k L v L.length) 0 L.length (fun q => lat L q ≠ v) (some (-1)) (fun q => some q)
    (fun j i i0 i1 hp => by
      rw [slices_Index_l0]; unfold slices_Index_l0s
      rw [decide_eq_true i1, decide_eq_true i0, cond_true, cond_true, lat_some i0 i1, optb_some, decide_eq_false (fun x => hp x.symm), cond_false, w64 (by omega) (by omega)])
    (fun j i i0 i1 hp => by
      rw [slices_Index_l0]; unfold slices_Index_l0s
      rw [decide_eq_true i1, decide_eq_true i0, cond_true, cond_true, lat_some i0 i1, optb_some, decide_eq_true (Classical.not_not.1 hp).symm, cond_true])
    (fun j i i0 i1 => by
      rw [slices_Index_l0]; unfold slices_Index_l0s
      rw [decide_eq_false (by omega), cond_false]) _ k 0 (Int.le_refl 0) rfl (by omega) with ⟨h1, h2⟩ | ⟨q, q0, q1, h1, _, h2⟩
  · rw [h2, optb_some, dc_f (fun ⟨q, x0, x1, x2⟩ => h1 q x0 x1 x2)]; rfl
  · rw [h2, optb_some, dc_t ⟨q, q0, q1, Classical.not_not.1 h1⟩, decide_eq_true q0]
theorem say_loop {R : Type} (e0 : List Rcd → Int → Bool → List Zn → Bool → List Int → Int → Int → Option R) (k j : Nat) (r0 r1 : Rcd) (ba : Int) (bb : Bool) (Z : List Zn) (bd : Bool) (M : List Int) (bf bg : Int) (hZ : Z.length ≤ 1000) (hM : M.length ≤ 1000) :
    ∃ q0 q1 q b1 b2, rebuild_Begin_i66_4_l0 e0 k 2 (j + 3) 0 [r0, r1] ba bb Z bd M bf bg = e0 [(r0.1, q0, r0.2.2), (r1.1, q1, r1.2.2)] q b1
      (noteZ (noteZ Z r0.1 r0.2.2.1 r0.2.2.2.1 r0.2.2.2.2.1 r0.2.2.2.2.2.1) r1.1 r1.2.2.1 r1.2.2.2.1 r1.2.2.2.2.1 r1.2.2.2.2.2.1) b2 (noteM (noteM M r0.1 r0.2.2.1 r0.2.2.2.1) r1.1 r1.2.2.1 r1.2.2.2.1)
      (noteS (noteS bf r0.1 r0.2.2.1) r1.1 r1.2.2.1) (noteC (noteC bg r0.1 r0.2.2.2.1) r1.1 r1.2.2.2.1) := by
  obtain ⟨c1, c2, n1⟩ := note_val k ba bb Z bd M bf bg r0.1 (wrap64 (ba + 1)) r0.2.2.1 r0.2.2.2.1 r0.2.2.2.2.1 r0.2.2.2.2.2.1 r0.2.2.2.2.2.2 hZ hM
  obtain ⟨d1, d2, n2⟩ := note_val k (noteQ ba (wrap64 (ba + 1))) c1 (noteZ Z r0.1 r0.2.2.1 r0.2.2.2.1 r0.2.2.2.2.1 r0.2.2.2.2.2.1) c2 (noteM M r0.1 r0.2.2.1 r0.2.2.2.1) (noteS bf r0.1 r0.2.2.1) (noteC bg r0.1 r0.2.2.2.1) r1.1 (wrap64 (noteQ ba (wrap64 (ba + 1)) + 1)) r1.2.2.1 r1.2.2.2.1 r1.2.2.2.2.1 r1.2.2.2.2.2.1 r1.2.2.2.2.2.2 (by rw [noteZ_len]; exact hZ) (by rw [noteM_len]; exact hM)
  refine ⟨wrap64 (ba + 1), wrap64 (noteQ ba (wrap64 (ba + 1)) + 1), noteQ (noteQ ba (wrap64 (ba + 1))) (wrap64 (noteQ ba (wrap64 (ba + 1)) + 1)), d1, d2, ?_⟩
  rw [rebuild_Begin_i66_4_l0]; unfold rebuild_Begin_i66_4_l0s
  rw [show decide ((0 : Int) < 2) = true from rfl, show decide ((0 : Int) ≤ 0) = true from rfl, show decide ((0 : Int) < lenI [r0, r1]) = true from rfl, cond_true, Bool.and_self, cond_true, show ([r0, r1] : List Rcd)[(0 : Int).toNat]? = some r0 from rfl, optb_some]
  simp only [show (0 : Int).toNat = 0 from rfl, List.set_cons_zero]
  rw [show decide ((0 : Int) < lenI [((r0.1, wrap64 (ba + 1), r0.2.2) : Rcd), r1]) = true from rfl, Bool.and_self, cond_true, show ([((r0.1, wrap64 (ba + 1), r0.2.2.1, r0.2.2.2.1, r0.2.2.2.2.1, r0.2.2.2.2.2.1, r0.2.2.2.2.2.2) : Rcd), r1] : List Rcd)[0]? = some (r0.1, wrap64 (ba + 1), r0.2.2.1, r0.2.2.2.1, r0.2.2.2.2.1, r0.2.2.2.2.2.1, r0.2.2.2.2.2.2) from rfl, optb_some]
  simp only
  rw [n1, optb_some, show wrap64 (0 + 1) = 1 from by kernel_rfl]
  simp only
  rw [rebuild_Begin_i66_4_l0]; unfold rebuild_Begin_i66_4_l0s
  generalize hr0 : ((r0.1, wrap64 (ba + 1), r0.2.2.1, r0.2.2.2.1, r0.2.2.2.2.1, r0.2.2.2.2.2.1, r0.2.2.2.2.2.2) : Rcd) = R0
  rw [show decide ((1 : Int) < 2) = true from rfl, show decide ((0 : Int) ≤ 1) = true from rfl, show decide ((1 : Int) < lenI [R0, r1]) = true from rfl, cond_true, Bool.and_self, cond_true, show ([R0, r1] : List Rcd)[(1 : Int).toNat]? = some r1 from rfl, optb_some]
  simp only [show (1 : Int).toNat = 1 from rfl, List.set_cons_succ, List.set_cons_zero]
  generalize hr1 : ((r1.1, wrap64 (noteQ ba (wrap64 (ba + 1)) + 1), r1.2.2.1, r1.2.2.2.1, r1.2.2.2.2.1, r1.2.2.2.2.2.1, r1.2.2.2.2.2.2) : Rcd) = R1
  rw [show decide ((1 : Int) < lenI [R0, R1]) = true from rfl, Bool.and_self, cond_true, show ([R0, R1] : List Rcd)[1]? = some R1 from rfl, optb_some, ← hr1]
  simp only
  rw [n2, optb_some, show wrap64 (1 + 1) = 2 from by kernel_rfl]
  simp only
  rw [rebuild_Begin_i66_4_l0]; unfold rebuild_Begin_i66_4_l0s
  rw [show decide ((2 : Int) < 2) = false from rfl, cond_false, ← hr0]
end
section
variable {a0 a1 a2 a3 a4 : Int}
theorem begin_ok (k : Nat) (hk : 2000 ≤ k) (g : GG a0 a1 a2 a3 a4) (ba : Int) (bb : Bool) (Z : List Zn) (bd : Bool) (M : List Int) (bf bg s : Int) (hZ : Z.length ≤ 1000) (hM : (M.length : Int) = a0) (s0 : 0 ≤ s) (s1 : s < a0) (hb : bf < 0 ∨ bf = s ∧ lat M s ≠ a0) (hc : ∀ q : Int, 0 ≤ q → q < a0 → lat M q ≠ a0) :
    ∃ q0 q1 q b1 b2, rebuild_Begin k a0 a1 a2 a3 a4 ba bb Z bd M bf bg s = some ((false, [((6, q0, s, 2, 0, 0, ⟨#[]⟩) : Rcd), (5, q1, s, a0, 0, 0, ⟨#[]⟩)]), ((q, ((b1, Z), ((b2, M.set s.toNat a0), (s, 2)))), 0)) := by
  have h1 := g.1
  have h2 := g.2.1
  obtain ⟨j, hj⟩ : ∃ u, k = u + 3 := ⟨k - 3, by omega⟩
  have hsay := fun (e0 : List Rcd → Int → Bool → List Zn → Bool → List Int → Int → Int → Option ((Bool × List Rcd) × ((Int × ((Bool × List Zn) × ((Bool × List Int) × (Int × Int)))) × Int))) => say_loop e0 k j (6, 0, s, 2, 0, 0, ⟨#[]⟩) (5, 0, s, a0, 0, 0, ⟨#[]⟩) ba bb Z bd M bf bg hZ (by omega)
  unfold rebuild_Begin
  rw [good_val, decide_eq_true g, optb_some, lenI_eq, decide_eq_true hM, decide_eq_false (show ¬ s < 0 by omega), decide_eq_false (show ¬ a0 ≤ s by omega)]
  simp only [Bool.not_true, cond_false, rebuild_Begin_j0]
  have hcon : slices_Contains k bd M a0 = some false := by
    rw [contains_val k hk bd M (by omega), dc_f (fun ⟨q, x0, x1, x2⟩ => hc q x0 (by omega) x2)]
  have hj1 : ∀ e0 e1, rebuild_Begin_j1 (R := (Bool × List Rcd) × ((Int × ((Bool × List Zn) × ((Bool × List Int) × (Int × Int)))) × Int)) e0 e1 k false a0 bd M = e1 := fun e0 e1 => by
    unfold rebuild_Begin_j1
    rw [cond_false, hcon, optb_some, cond_false]
  have hfin : ∃ q0 q1 q b1 b2, rebuild_Begin_k3 k ba bb Z bd M bf bg a0 s = some ((false, [((6, q0, s, 2, 0, 0, ⟨#[]⟩) : Rcd), (5, q1, s, a0, 0, 0, ⟨#[]⟩)]), ((q, ((b1, Z), ((b2, M.set s.toNat a0), (s, 2)))), 0)) := by
    unfold rebuild_Begin_k3 rebuild_Begin_j2
    obtain ⟨q0, q1, q, b1, b2, e⟩ := hsay (fun l_2246 ba_2247 bb_2248 bc_2249 bd_2250 be_2251 bf_2252 bg_2253 => some ((false, l_2246), ((ba_2247, ((bb_2248, bc_2249), ((bd_2250, be_2251), (bf_2252, bg_2253)))), (0 : Int))))
    refine ⟨q0, q1, q, b1, b2, ?_⟩
    rw [← hj] at e
    have z1 : noteZ (noteZ Z 6 s 2 0 0) 5 s a0 0 0 = Z := by
      unfold noteZ
      rw [dc_f (fun x => absurd x.1 (by decide)), dc_f (fun x => absurd x.1 (by decide))]; rfl
    have m1 : noteM (noteM M 6 s 2) 5 s a0 = M.set s.toNat a0 := by
      have : noteM M 6 s 2 = M := by unfold noteM; rw [dc_f (fun x => absurd x.1 (by decide))]; rfl
      rw [this]; unfold noteM
      rw [dc_t ⟨rfl, s0, by omega⟩]; rfl
    have f1 : noteS (noteS bf 6 s) 5 s = s := by
      unfold noteS
      rw [decide_eq_false (show ¬ s = 65535 by omega)]; rfl
    have c1 : noteC (noteC bg 6 2) 5 a0 = 2 := rfl
    simp only [z1, m1, f1, c1] at e
    exact e
  rcases hb with hb | ⟨hb, hl⟩
  · rw [decide_eq_false (show ¬ 0 ≤ bf by omega), cond_false, hj1]; exact hfin
  · subst hb
    rw [decide_eq_true s0]
    simp only [decide_true, cond_true, Bool.not_true, cond_false]
    rw [lat_some s0 (by omega), optb_some, decide_eq_false hl, hj1]; exact hfin
theorem begin_held (k : Nat) (g : GG a0 a1 a2 a3 a4) (ba : Int) (bb : Bool) (Z : List Zn) (bd : Bool) (M : List Int) (bg s : Int) (hM : (M.length : Int) = a0) (s0 : 0 ≤ s) (s1 : s < a0) (hl : lat M s = a0) :
    ∃ v, rebuild_Begin k a0 a1 a2 a3 a4 ba bb Z bd M s bg s = some v ∧ v.2.2 = 3 := by
  unfold rebuild_Begin
  rw [good_val, decide_eq_true g, optb_some, lenI_eq, decide_eq_true hM, decide_eq_false (show ¬ s < 0 by omega), decide_eq_false (show ¬ a0 ≤ s by omega)]
  simp only [Bool.not_true, cond_false, rebuild_Begin_j0]
  rw [decide_eq_true s0]
  simp only [decide_true, cond_true, Bool.not_true, cond_false]
  rw [lat_some s0 (by omega), optb_some, decide_eq_true hl]
  exact ⟨_, rfl, rfl⟩
theorem has_val (k : Nat) (ba : Int) (bb : Bool) (Z : List Zn) (bd : Bool) (M : List Int) (bf bg s p : Int) :
    book_Book_Has k ba bb Z bd M bf bg s p = some (decide (0 ≤ s) && (decide (s < M.length) && (!(decide (s = bf)) || decide (p < bg)))) := by
  unfold book_Book_Has
  rw [lenI_eq]
  cases decide (0 ≤ s) <;> cases decide (s < (M.length : Int)) <;> cases decide (s = bf) <;> rfl
end
/-! ### what comes next in a rebuilding -/
section
variable {a0 a1 a2 a3 a4 : Int}
theorem index_val (k : Nat) (hk : 2000 ≤ k) (b : Bool) (Z : List Zn) (hZ : Z.length ≤ 1000) (z : Int) : ∃ r, slices_IndexFunc_c72 k b Z z = some r ∧ ((r = -1 ∧ ∀ q : Int, 0 ≤ q → q < Z.length → (gat (0, 0, 0) Z q).1 ≠ z) ∨ (0 ≤ r ∧ r < Z.length ∧ (gat (0, 0, 0) Z r).1 = z)) := by
  unfold slices_IndexFunc_c72
  rw [lenI_eq]
  rcases loopUp (slices_IndexFunc_c72_l0 (fun v => some v) (some (-1)) k Z z Z.length) 0 Z.length (fun q => (gat (0, 0, 0) Z q).1 ≠ z) (some (-1)) (fun q => some q)
    (fun j i i0 i1 hp => by
      rw [slices_IndexFunc_c72_l0]; unfold slices_IndexFunc_c72_l0s
      rw [decide_eq_true i1, decide_eq_true i0, cond_true, cond_true, gat_some (0, 0, 0) i0 i1, optb_some, decide_eq_false hp, cond_false, w64 (by omega) (by omega)])
    (fun j i i0 i1 hp => by
      rw [slices_IndexFunc_c72_l0]; unfold slices_IndexFunc_c72_l0s
      rw [decide_eq_true i1, decide_eq_true i0, cond_true, cond_true, gat_some (0, 0, 0) i0 i1, optb_some, decide_eq_true (Classical.not_not.1 hp), cond_true])
    (fun j i i0 i1 => by
      rw [slices_IndexFunc_c72_l0]; unfold slices_IndexFunc_c72_l0s
      rw [decide_eq_false (by omega), cond_false]) _ k 0 (Int.le_refl 0) rfl (by omega) with ⟨h1, h2⟩ | ⟨q, q0, q1, h1, _, h2⟩
  · exact ⟨-1, h2, .inl ⟨rfl, h1⟩⟩
  · exact ⟨q, h2, .inr ⟨q0, q1, Classical.not_not.1 h1⟩⟩
theorem adv_no (k : Nat) (ba : Int) (bb : Bool) (Z : List Zn) (bd : Bool) (M : List Int) (bf bg : Int) (h : bf < 0) : ∃ v, rebuild_Advance k a0 a1 a2 a3 a4 ba bb Z bd M bf bg = some v ∧ v.2.2 = 3 := by
  unfold rebuild_Advance
  rw [decide_eq_true h, cond_true]
  exact ⟨_, rfl, rfl⟩
theorem adv_ok (k : Nat) (hk : 2000 ≤ k) (ba : Int) (bb : Bool) (Z : List Zn) (bd : Bool) (M : List Int) (bf bg : Int) (hZ : Z.length ≤ 1000) (hM : M.length ≤ 1000) (h0 : 0 ≤ bf) (h1 : bf < 1000) (c0 : 2 ≤ bg) (c1 : bg < a1) (ha : a1 ≤ 1000) :
    ∃ x q b1 b2, rebuild_Advance k a0 a1 a2 a3 a4 ba bb Z bd M bf bg = some (x, ((q, ((b1, Z), ((b2, M), (if bg + 1 < a1 then (bf, bg + 1) else (-1, 0))))), 0)) := by
  obtain ⟨r, hr, _⟩ := index_val k hk bb Z hZ bg
  obtain ⟨j, hj⟩ : ∃ u, k = u + 2 := ⟨k - 2, by omega⟩
  unfold rebuild_Advance rebuild_Next
  rw [decide_eq_false (show ¬ bf < 0 by omega), decide_eq_false (show ¬ a1 ≤ bg by omega)]
  simp only [cond_false, rebuild_Next_j0, rebuild_Next_k1]
  rw [decide_eq_false (show ¬ (2 : Int) > bg by omega), cond_false, hr, optb_some, optb_some]
  simp only [cond_true, rebuild_Advance_j0]
  rw [w64 (n := bg + 1) (by omega) (by omega)]
  have fin : ∀ A B : Int, ∃ x q b1 b2, rebuild_Advance_k0 k ba bb Z bd M bf bg A B = some (x, ((q, ((b1, Z), ((b2, M), (noteS bf 6 A, noteC bg 6 B)))), 0)) := by
    intro A B
    unfold rebuild_Advance_k0 rebuild_Advance_j1
    obtain ⟨b1, b2, n1⟩ := note_val k ba bb Z bd M bf bg 6 (wrap64 (ba + 1)) A B 0 0 ⟨#[]⟩ hZ hM
    have zz : noteZ Z 6 A B 0 0 = Z := by unfold noteZ; rw [dc_f (fun x => absurd x.1 (by decide))]; rfl
    have zm : noteM M 6 A B = M := by unfold noteM; rw [dc_f (fun x => absurd x.1 (by decide))]; rfl
    rw [zz, zm] at n1
    refine ⟨(6, wrap64 (ba + 1), A, B, 0, 0, ⟨#[]⟩), noteQ ba (wrap64 (ba + 1)), b1, b2, ?_⟩
    have step : ∀ (e : List Rcd → Int → Bool → List Zn → Bool → List Int → Int → Int → Option (Rcd × ((Int × ((Bool × List Zn) × ((Bool × List Int) × (Int × Int)))) × Int))), rebuild_Advance_i66_6_l0 e k 1 (j + 2) 0 [((6, 0, A, B, 0, 0, ⟨#[]⟩) : Rcd)] ba bb Z bd M bf bg = e [(6, wrap64 (ba + 1), A, B, 0, 0, ⟨#[]⟩)] (noteQ ba (wrap64 (ba + 1))) b1 Z b2 M (noteS bf 6 A) (noteC bg 6 B) := by
      intro e
      rw [rebuild_Advance_i66_6_l0]; unfold rebuild_Advance_i66_6_l0s
      rw [show decide ((0 : Int) < 1) = true from rfl, show decide ((0 : Int) ≤ 0) = true from rfl, show decide ((0 : Int) < lenI [((6, 0, A, B, 0, 0, ⟨#[]⟩) : Rcd)]) = true from rfl, cond_true, Bool.and_self, cond_true, show ([((6, 0, A, B, 0, 0, ⟨#[]⟩) : Rcd)] : List Rcd)[(0 : Int).toNat]? = some (6, 0, A, B, 0, 0, ⟨#[]⟩) from rfl, optb_some]
      simp only [show (0 : Int).toNat = 0 from rfl, List.set_cons_zero]
      rw [show decide ((0 : Int) < lenI [((6, wrap64 (ba + 1), A, B, 0, 0, ⟨#[]⟩) : Rcd)]) = true from rfl, Bool.and_self, cond_true, show ([((6, wrap64 (ba + 1), A, B, 0, 0, ⟨#[]⟩) : Rcd)] : List Rcd)[0]? = some (6, wrap64 (ba + 1), A, B, 0, 0, ⟨#[]⟩) from rfl, optb_some]
      simp only
      rw [n1, optb_some, show wrap64 (0 + 1) = 1 from by kernel_rfl]
      simp only
      rw [rebuild_Advance_i66_6_l0]; unfold rebuild_Advance_i66_6_l0s
      rw [show decide ((1 : Int) < 1) = false from rfl, cond_false]
    rw [show lenI [((6, 0, A, B, 0, 0, ⟨#[]⟩) : Rcd)] = 1 from rfl]
    conv => lhs; arg 4; rw [hj]
    rw [step]
    rw [show decide ((0 : Int) < lenI [((6, wrap64 (ba + 1), A, B, 0, 0, ⟨#[]⟩) : Rcd)]) = true from rfl, cond_true, show ([((6, wrap64 (ba + 1), A, B, 0, 0, ⟨#[]⟩) : Rcd)] : List Rcd)[(0 : Int).toNat]? = some (6, wrap64 (ba + 1), A, B, 0, 0, ⟨#[]⟩) from rfl, optb_some]
  by_cases hc : bg + 1 < a1
  · rw [decide_eq_true hc, cond_true, if_pos hc]
    obtain ⟨x, q, b1, b2, e⟩ := fin bf (bg + 1)
    refine ⟨x, q, b1, b2, ?_⟩
    rw [e]
    have zs : noteS bf 6 bf = bf := by unfold noteS; rw [decide_eq_false (show ¬ bf = 65535 by omega)]; rfl
    rw [zs]; rfl
  · rw [decide_eq_false hc, cond_false, if_neg hc]
    obtain ⟨x, q, b1, b2, e⟩ := fin 65535 0
    exact ⟨x, q, b1, b2, e⟩
end
/-! ### counting -/
noncomputable def cntI (P : Int → Prop) : Nat → Int
  | 0 => 0
  | n + 1 => cntI P n + (bif dc (P n) then 1 else 0)
theorem cntI_congr {P Q : Int → Prop} (n : Nat) (h : ∀ q : Nat, q < n → (P q ↔ Q q)) : cntI P n = cntI Q n := by
  induction n with
  | zero => rfl
  | succ n ih => unfold cntI; rw [dc_congr (h n (by omega)), ih (fun q hq => h q (by omega))]
theorem cntI_more {P Q : Int → Prop} {r : Int} (r0 : 0 ≤ r) (hr : ¬ P r) (n : Nat) (h : ∀ q : Nat, q < n → (Q q ↔ P q ∨ (q : Int) = r)) : cntI Q n = cntI P n + (if r < n then 1 else 0) := by
  induction n with
  | zero => rw [if_neg (by omega)]; rfl
  | succ n ih =>
    unfold cntI
    rw [ih (fun q hq => h q (by omega))]
    by_cases e : (n : Int) = r
    · have hq : Q n := (h n (by omega)).2 (.inr e)
      have hp : ¬ P n := by rw [e]; exact hr
      rw [dc_t hq, dc_f hp, cond_true, cond_false, if_neg (by omega), if_pos (by omega)]
    · have hq : Q n ↔ P n := ⟨fun x => ((h n (by omega)).1 x).resolve_right e, fun x => (h n (by omega)).2 (.inl x)⟩
      rw [dc_congr hq]
      by_cases c : r < n
      · rw [if_pos c, if_pos (by omega)]; omega
      · rw [if_neg c, if_neg (by omega)]; omega
theorem cntI_lt {P : Int → Prop} (m n : Nat) (hm : m ≤ n) (h : ∀ q : Nat, q < n → (P q ↔ q < m)) : cntI P n = m := by
  induction n generalizing m with
  | zero => have : m = 0 := by omega
            subst this; rfl
  | succ n ih =>
    unfold cntI
    by_cases e : m = n + 1
    · subst e
      rw [ih n (Nat.le_refl n) (fun q hq => ⟨fun _ => hq, fun _ => (h q (by omega)).2 (by omega)⟩), dc_t ((h n (by omega)).2 (by omega)), cond_true]; omega
    · rw [ih m (by omega) (fun q hq => h q (by omega)), dc_f (fun x => by have := (h n (by omega)).1 x; omega), cond_false]; omega
section
variable {a0 a1 a2 a3 a4 : Int}
abbrev zp (Z : List Zn) (q : Int) : Int := (gat (0, 0, 0) Z q).1
/-- zones lie apart, in the places for them -/
structure WZ (a1 : Int) (Z : List Zn) : Prop where
  len : (Z.length : Int) = a1 - 3
  rng : ∀ q : Int, 0 ≤ q → q < a1 - 3 → 2 ≤ zp Z q ∧ zp Z q < a1
  inj : ∀ q r : Int, 0 ≤ q → q < a1 - 3 → 0 ≤ r → r < a1 - 3 → zp Z q = zp Z r → q = r
/-- a place is taken by one of the first m zones -/
def Occ (Z : List Zn) (m q : Int) : Prop := ∃ z : Int, 0 ≤ z ∧ z < m ∧ zp Z z = q + 2
theorem occ_cnt {Z : List Zn} (h : WZ a1 Z) (m : Nat) (hm : (m : Int) ≤ a1 - 3) : cntI (Occ Z m) (a1 - 2).toNat = m := by
  induction m with
  | zero =>
    have := cntI_lt (P := Occ Z (0 : Nat)) 0 (a1 - 2).toNat (Nat.zero_le _) (fun q hq => ⟨fun ⟨z, z0, z1, _⟩ => by omega, fun h => absurd h (by omega)⟩)
    exact this
  | succ m ih =>
    have hr := h.rng m (by omega) (by omega)
    have := cntI_more (P := Occ Z m) (Q := Occ Z ((m + 1 : Nat) : Int)) (r := zp Z m - 2) (by omega) (fun ⟨z, z0, z1, e⟩ => by
      have := h.inj z m z0 (by omega) (by omega) (by omega) (by omega)
      omega) (a1 - 2).toNat (fun q hq => by
      constructor
      · rintro ⟨z, z0, z1, e⟩
        by_cases c : z = m
        · subst c; right; omega
        · exact .inl ⟨z, z0, by omega, e⟩
      · rintro (⟨z, z0, z1, e⟩ | e)
        · exact ⟨z, z0, by omega, e⟩
        · exact ⟨m, by omega, by omega, by omega⟩)
    rw [this, ih (by omega), if_pos (by omega)]; omega
/-- one place is free -/
theorem some_free {Z : List Zn} (h : WZ a1 Z) (h1 : 5 ≤ a1) : ¬ ∀ q : Int, 2 ≤ q → q < a1 → ∃ z : Int, 0 ≤ z ∧ z < Z.length ∧ zp Z z = q := by
  intro hall
  have h2 := occ_cnt h (a1 - 3).toNat (by omega)
  have h3 := cntI_lt (P := Occ Z ((a1 - 3).toNat : Int)) (a1 - 2).toNat (a1 - 2).toNat (Nat.le_refl _) (fun q hq => ⟨fun _ => hq, fun _ => by
    obtain ⟨z, z0, z1, e⟩ := hall (q + 2) (by omega) (by omega)
    have := h.len
    exact ⟨z, z0, by omega, e⟩⟩)
  omega
theorem inner_val {R : Type} (e0 : Int → Option R) (e1 : Option R) (k : Nat) (hk : 2000 ≤ k) (Z : List Zn) (hZ : Z.length ≤ 1000) (p : Int) :
    (book_Book_Free_i71_3_l0 e0 e1 k Z (lenI Z) p k 0 = e1 ∧ ∀ q : Int, 0 ≤ q → q < Z.length → zp Z q ≠ p) ∨ ∃ q : Int, 0 ≤ q ∧ q < Z.length ∧ zp Z q = p ∧ book_Book_Free_i71_3_l0 e0 e1 k Z (lenI Z) p k 0 = e0 q := by
  rw [lenI_eq]
  rcases loopUp (book_Book_Free_i71_3_l0 e0 e1 k Z Z.length p) 0 Z.length (fun q => zp Z q ≠ p) e1 (fun q => e0 q)
    (fun j i i0 i1 hp => by
      rw [book_Book_Free_i71_3_l0]; unfold book_Book_Free_i71_3_l0s
      rw [decide_eq_true i1, decide_eq_true i0, cond_true, cond_true, gat_some (0, 0, 0) i0 i1, optb_some, decide_eq_false hp, cond_false, w64 (by omega) (by omega)])
    (fun j i i0 i1 hp => by
      rw [book_Book_Free_i71_3_l0]; unfold book_Book_Free_i71_3_l0s
      rw [decide_eq_true i1, decide_eq_true i0, cond_true, cond_true, gat_some (0, 0, 0) i0 i1, optb_some, decide_eq_true (Classical.not_not.1 hp), cond_true])
    (fun j i i0 i1 => by
      rw [book_Book_Free_i71_3_l0]; unfold book_Book_Free_i71_3_l0s
      rw [decide_eq_false (by omega), cond_false]) _ k 0 (Int.le_refl 0) rfl (by omega) with ⟨h1, h2⟩ | ⟨q, q0, q1, h1, _, h2⟩
  · exact .inl ⟨h2, h1⟩
  · exact .inr ⟨q, q0, q1, Classical.not_not.1 h1, h2⟩
theorem free_val (k : Nat) (hk : 2000 ≤ k) (h1 : 5 ≤ a1) (h2 : a1 ≤ 64) (ba : Int) (bb : Bool) (Z : List Zn) (bd : Bool) (M : List Int) (bf bg : Int) (h : WZ a1 Z) :
    ∃ f, book_Book_Free k ba bb Z bd M bf bg a0 a1 a2 a3 a4 = some f ∧ 2 ≤ f ∧ f < a1 ∧ ∀ q : Int, 0 ≤ q → q < Z.length → zp Z q ≠ f := by
  have hlen := h.len
  unfold book_Book_Free
  rcases loopUp (book_Book_Free_l0 (fun v => some v) (some (-1 : Int)) k Z a1) 2 a1 (fun p => ∃ z : Int, 0 ≤ z ∧ z < Z.length ∧ zp Z z = p) (some (-1)) (fun p => some p)
    (fun j p p0 p1 hp => by
      rw [book_Book_Free_l0]; unfold book_Book_Free_l0s
      rw [decide_eq_true p1, cond_true]
      rcases inner_val (fun v_2652 => bif (!(decide ((0 : Int) ≤ v_2652))) then (fun v => some v) p else book_Book_Free_l0 (fun v => some v) (some (-1 : Int)) k Z a1 j (wrap64 (p + 1))) ((fun v => some v) p) k hk Z (by omega) p with ⟨e1, e2⟩ | ⟨q, q0, q1, e1, e2⟩
      · obtain ⟨z, z0, z1, e⟩ := hp
        exact absurd e (e2 z z0 z1)
      · rw [e2, decide_eq_true q0]
        simp only [Bool.not_true, cond_false]
        rw [w64 (n := p + 1) (by omega) (by omega)])
    (fun j p p0 p1 hp => by
      rw [book_Book_Free_l0]; unfold book_Book_Free_l0s
      rw [decide_eq_true p1, cond_true]
      rcases inner_val (fun v_2652 => bif (!(decide ((0 : Int) ≤ v_2652))) then (fun v => some v) p else book_Book_Free_l0 (fun v => some v) (some (-1 : Int)) k Z a1 j (wrap64 (p + 1))) ((fun v => some v) p) k hk Z (by omega) p with ⟨e1, e2⟩ | ⟨q, q0, q1, e1, e2⟩
      · exact e1
      · exact absurd ⟨q, q0, q1, e1⟩ hp)
    (fun j p p0 p1 => by
      rw [book_Book_Free_l0]; unfold book_Book_Free_l0s
      rw [decide_eq_false (by omega), cond_false]) _ k 2 (Int.le_refl 2) rfl (by omega) with ⟨e1, e2⟩ | ⟨q, q0, q1, e1, _, e2⟩
  · exact absurd e1 (some_free h h1)
  · exact ⟨q, e2, q0, q1, fun z z0 z1 e => e1 ⟨z, z0, z1, e⟩⟩
theorem WZ.move {Z : List Zn} (h : WZ a1 Z) {z f : Int} (z0 : 0 ≤ z) (z1 : z < a1 - 3) (f0 : 2 ≤ f) (f1 : f < a1) (hf : ∀ q : Int, 0 ≤ q → q < Z.length → zp Z q ≠ f) : WZ a1 (Z.set z.toNat (f, 1, 0)) := by
  have hlen := h.len
  have hg : ∀ q : Int, 0 ≤ q → zp (Z.set z.toNat (f, 1, 0)) q = if q = z then f else zp Z q := fun q q0 => by
    unfold zp
    rw [gat_set (0, 0, 0) z0 (by omega) _ q0]
    split <;> rfl
  refine ⟨by rw [List.length_set]; exact hlen, fun q q0 q1 => ?_, fun q r q0 q1 r0 r1 e => ?_⟩
  · rw [hg q q0]
    split
    · exact ⟨f0, f1⟩
    · exact h.rng q q0 q1
  · rw [hg q q0, hg r r0] at e
    by_cases eq : q = z
    · by_cases er : r = z
      · omega
      · rw [if_pos eq, if_neg er] at e
        exact absurd e.symm (hf r r0 (by omega))
    · by_cases er : r = z
      · rw [if_neg eq, if_pos er] at e
        exact absurd e (hf q q0 (by omega))
      · rw [if_neg eq, if_neg er] at e
        exact h.inj q r q0 q1 r0 r1 e
theorem l0_val (e0 : Int → Bool → List Zn → Bool → List Int → Int → Int → Option Bool) (k : Nat) (hk : 5000 ≤ k) (g : GG a0 a1 a2 a3 a4) (L : List Int) (M : List Int) (hM : (M.length : Int) = a0)
    (he : ∀ ba bb Z bd, WZ a1 Z → e0 ba bb Z bd M (-1) 0 = some true) :
    ∀ (u j : Nat) (i ba : Int) (bb : Bool) (Z : List Zn) (bd : Bool), 0 ≤ i → i ≤ 20 → (20 - i).toNat = u → u < j → WZ a1 Z → corbellaw16_RebuildEnds_l0 e0 k L a0 a1 a2 a3 a4 j i ba bb Z bd M (-1) 0 = some true := by
  have h1 := g.1
  have h2 := g.2.1
  have h3 := g.2.2.1
  have h4 := g.2.2.2.1
  intro u
  induction u with
  | zero =>
    intro j i ba bb Z bd i0 i1 hu hj hz
    obtain ⟨j, rfl⟩ : ∃ u, j = u + 1 := ⟨j - 1, by omega⟩
    rw [corbellaw16_RebuildEnds_l0]; unfold corbellaw16_RebuildEnds_l0s
    rw [decide_eq_false (show ¬ i < 20 by omega), cond_false]
    cases decide (i < lenI L) with
    | true => exact he ba bb Z bd hz
    | false => exact he ba bb Z bd hz
  | succ u ih =>
    intro j i ba bb Z bd i0 i1 hu hj hz
    obtain ⟨j, rfl⟩ : ∃ u, j = u + 1 := ⟨j - 1, by omega⟩
    have hlen := hz.len
    rw [corbellaw16_RebuildEnds_l0]; unfold corbellaw16_RebuildEnds_l0s
    rw [lenI_eq, lenI_eq]
    by_cases hi : i < (L.length : Int)
    · rw [decide_eq_true hi, decide_eq_true (show i < 20 by omega), decide_eq_true i0, cond_true, cond_true, cond_true, lat_some i0 hi, optb_some, decide_eq_false (show ¬ (Z.length : Int) = 0 by omega), cond_false, cond_false]
      have m0 := Int.lt_tmod_of_pos (lat L i) (show 0 < (Z.length : Int) by omega)
      have m1 := Int.tmod_lt_of_pos (lat L i) (show 0 < (Z.length : Int) by omega)
      rw [w64 (n := Int.tmod (lat L i) Z.length + Z.length) (by omega) (by omega), tmod_pos (a := Int.tmod (lat L i) Z.length + Z.length) (by omega)]
      have z0 := Int.emod_nonneg (Int.tmod (lat L i) Z.length + Z.length) (show (Z.length : Int) ≠ 0 by omega)
      have z1 := Int.emod_lt_of_pos (Int.tmod (lat L i) Z.length + Z.length) (show 0 < (Z.length : Int) by omega)
      generalize (Int.tmod (lat L i) Z.length + Z.length) % (Z.length : Int) = z at *
      obtain ⟨f, hf, f0, f1, hno⟩ := free_val (a0 := a0) (a2 := a2) (a3 := a3) (a4 := a4) k (by omega) h3 h4 ba bb Z bd M (-1) 0 hz
      obtain ⟨b1, b2, hn⟩ := note_val k ba bb Z bd M (-1) 0 3 (wrap64 (ba + 1)) z f 1 0 ⟨#[]⟩ (by omega) (by omega)
      unfold corbellaw16_RebuildEnds_j1
      rw [hf, optb_some, hn, optb_some]
      simp only
      have e1 : noteZ Z 3 z f 1 0 = Z.set z.toNat (f, 1, 0) := by unfold noteZ; rw [dc_t ⟨rfl, z0, z1⟩]; rfl
      have e2 : noteM M 3 z f = M := by unfold noteM; rw [dc_f (fun x => absurd x.1 (by decide))]; rfl
      have e3 : noteS (-1) 3 z = -1 := rfl
      have e4 : noteC 0 3 f = 0 := rfl
      rw [e1, e2, e3, e4, w64 (n := i + 1) (by omega) (by omega)]
      exact ih j (i + 1) _ _ _ _ (by omega) (by omega) (by omega) (by omega) (hz.move z0 (by omega) f0 f1 hno)
    · rw [decide_eq_false hi, cond_false]
      exact he ba bb Z bd hz
theorem begin_none (k : Nat) (hk : 2000 ≤ k) (g : GG a0 a1 a2 a3 a4) (ba : Int) (bb : Bool) (Z : List Zn) (bd : Bool) (M : List Int) (bg s : Int) (hM : (M.length : Int) = a0) (s0 : 0 ≤ s) (s1 : s < a0) (hl : lat M s = a0) :
    ∃ v, rebuild_Begin k a0 a1 a2 a3 a4 ba bb Z bd M (-1) bg s = some v ∧ v.2.2 = 13 := by
  have h2 := g.2.1
  have hcon : slices_Contains k bd M a0 = some true := by
    rw [contains_val k hk bd M (by omega), dc_t ⟨s, s0, by omega, hl⟩]
  unfold rebuild_Begin
  rw [good_val, decide_eq_true g, optb_some, lenI_eq, decide_eq_true hM, decide_eq_false (show ¬ s < 0 by omega), decide_eq_false (show ¬ a0 ≤ s by omega)]
  simp only [Bool.not_true, cond_false, rebuild_Begin_j0]
  rw [decide_eq_false (show ¬ (0 : Int) ≤ -1 by decide), cond_false]
  unfold rebuild_Begin_j1
  rw [cond_false, hcon, optb_some, cond_true]
  exact ⟨_, rfl, rfl⟩
theorem l2_val (e0 : Bool → Int → Bool → List Zn → Bool → List Int → Int → Int → List Int → Option Bool) (e1 : Int → Bool → List Zn → Bool → List Int → Int → Int → List Int → Option Bool) (k : Nat) (hk : 5000 ≤ k) (g : GG a0 a1 a2 a3 a4) (s : Int) (s0 : 0 ≤ s) (s1 : s < a0) (Z : List Zn) (hz : WZ a1 Z) (M : List Int) (hM : (M.length : Int) = a0)
    (he : ∀ ba bb bd seen, (seen.length : Int) = a1 - 3 → e1 ba bb Z bd M (-1) 0 seen = some true) :
    ∀ (u j : Nat) (p ba : Int) (bb bd : Bool) (seen : List Int), 2 ≤ p → p ≤ a1 → (a1 - p).toNat = u → u < j → (seen.length : Int) = cntI (Occ Z (a1 - 3)) (p - 2).toNat →
      corbellaw16_RebuildEnds_l2 e0 e1 k s a0 a1 a0 a1 a2 a3 a4 j p ba bb Z bd M (if p < a1 then s else -1) (if p < a1 then p else 0) seen = some true := by
  have h1 := g.1
  have h2 := g.2.1
  have h3 := g.2.2.1
  have h4 := g.2.2.2.1
  have hlen := hz.len
  have hcl : ∀ n : Nat, 0 ≤ cntI (Occ Z (a1 - 3)) n ∧ cntI (Occ Z (a1 - 3)) n ≤ n := fun n => by
    induction n with
    | zero => exact ⟨Int.le_refl 0, Int.le_refl 0⟩
    | succ n ih =>
      unfold cntI
      cases dc (Occ Z (a1 - 3) n) with
      | true => rw [cond_true]; omega
      | false => rw [cond_false]; omega
  have hasv : ∀ (ba : Int) (bb bd : Bool) (bf bg x p : Int), 0 ≤ x → x < a0 → book_Book_Has k ba bb Z bd M bf bg x p = some (!(decide (x = bf)) || decide (p < bg)) := fun ba bb bd bf bg x p x0 x1 => by
    rw [has_val, decide_eq_true x0, decide_eq_true (show x < (M.length : Int) by omega)]; rfl
  intro u
  induction u with
  | zero =>
    intro j p ba bb bd seen p0 p1 hu hj hs
    obtain ⟨j, rfl⟩ : ∃ u, j = u + 1 := ⟨j - 1, by omega⟩
    have e : p = a1 := by omega
    subst e
    rw [if_neg (Int.lt_irrefl p), if_neg (Int.lt_irrefl p), corbellaw16_RebuildEnds_l2]; unfold corbellaw16_RebuildEnds_l2s
    rw [decide_eq_false (Int.lt_irrefl p), cond_false]
    refine he _ _ _ _ ?_
    rw [hs]
    have := occ_cnt hz (p - 3).toNat (by omega)
    rw [show (((p - 3).toNat : Nat) : Int) = p - 3 by omega] at this
    exact this
  | succ u ih =>
    intro j p ba bb bd seen p0 p1 hu hj hs
    obtain ⟨j, rfl⟩ : ∃ u, j = u + 1 := ⟨j - 1, by omega⟩
    have hpa : p < a1 := by omega
    have hcp := hcl (p - 2).toNat
    rw [if_pos hpa, if_pos hpa, corbellaw16_RebuildEnds_l2]; unfold corbellaw16_RebuildEnds_l2s
    rw [decide_eq_true hpa, cond_true]
    obtain ⟨r, hr, hrr⟩ := index_val k (by omega) bb Z (by omega) p
    have hnext : rebuild_Next k a0 a1 a2 a3 a4 ba bb Z bd M s p = some (p, (r, true)) := by
      unfold rebuild_Next
      rw [decide_eq_false (show ¬ s < 0 by omega), decide_eq_false (show ¬ a1 ≤ p by omega)]
      simp only [cond_false, rebuild_Next_j0, rebuild_Next_k1]
      rw [decide_eq_false (show ¬ (2 : Int) > p by omega), cond_false, hr, optb_some]
    rw [hnext, optb_some]
    obtain ⟨x, q, b1, b2, hadv⟩ := adv_ok (a0 := a0) (a1 := a1) (a2 := a2) (a3 := a3) (a4 := a4) k (by omega) ba bb Z bd M s p (by omega) (by omega) s0 (by omega) p0 hpa (by omega)
    -- the step itself
    have step : ∀ seen' : List Int, (seen'.length : Int) = cntI (Occ Z (a1 - 3)) (p + 1 - 2).toNat →
        corbellaw16_RebuildEnds_j6 (fun v_10171 ba_10183 bb_10184 bc_10185 bd_10186 be_10187 bf_10188 bg_10189 => corbellaw16_RebuildEnds_k2 (fun v_10218 ba_10230 bb_10231 bc_10232 bd_10233 be_10234 bf_10235 bg_10236 seen_10240 => e0 v_10218 ba_10230 bb_10231 bc_10232 bd_10233 be_10234 bf_10235 bg_10236 seen_10240) (fun ba_10253 bb_10254 bc_10255 bd_10256 be_10257 bf_10258 bg_10259 seen_10263 => corbellaw16_RebuildEnds_j7 (fun p_10341 => corbellaw16_RebuildEnds_l2 e0 e1 k s a0 a1 a0 a1 a2 a3 a4 j p_10341 ba_10253 bb_10254 bc_10255 bd_10256 be_10257 bf_10258 bg_10259 seen_10263) k p) k v_10171 ba_10183 bb_10184 bc_10185 bd_10186 be_10187 bf_10188 bg_10189 seen')
          (fun ba_10206 bb_10207 bc_10208 bd_10209 be_10210 bf_10211 bg_10212 => corbellaw16_RebuildEnds_k3 (fun v_10218 ba_10230 bb_10231 bc_10232 bd_10233 be_10234 bf_10235 bg_10236 seen_10240 => e0 v_10218 ba_10230 bb_10231 bc_10232 bd_10233 be_10234 bf_10235 bg_10236 seen_10240) (fun ba_10253 bb_10254 bc_10255 bd_10256 be_10257 bf_10258 bg_10259 seen_10263 => corbellaw16_RebuildEnds_j7 (fun p_10341 => corbellaw16_RebuildEnds_l2 e0 e1 k s a0 a1 a0 a1 a2 a3 a4 j p_10341 ba_10253 bb_10254 bc_10255 bd_10256 be_10257 bf_10258 bg_10259 seen_10263) k p) k ba_10206 bb_10207 bc_10208 bd_10209 be_10210 bf_10211 bg_10212 seen') k a0 a1 a2 a3 a4 ba bb Z bd M s p = some true := by
      intro seen' hs'
      unfold corbellaw16_RebuildEnds_j6
      rw [hadv, optb_some]
      simp only [decide_true, Bool.not_true, cond_false]
      unfold corbellaw16_RebuildEnds_k3 corbellaw16_RebuildEnds_j7
      rw [w64 (n := p + 1) (by omega) (by omega)]
      have := ih j (p + 1) q b1 b2 seen' (by omega) (by omega) (by omega) (by omega) hs'
      by_cases c : p + 1 < a1
      · rw [if_pos c, if_pos c] at this
        simp only [if_pos c]; exact this
      · rw [if_neg c, if_neg c] at this
        simp only [if_neg c]; exact this
    have hsucc : cntI (Occ Z (a1 - 3)) (p + 1 - 2).toNat = cntI (Occ Z (a1 - 3)) (p - 2).toNat + (bif dc (Occ Z (a1 - 3) (p - 2)) then 1 else 0) := by
      rw [show (p + 1 - 2).toNat = (p - 2).toNat + 1 by omega]
      show cntI _ _ + (bif dc (Occ Z (a1 - 3) ((p - 2).toNat : Int)) then 1 else 0) = _
      rw [show (((p - 2).toNat : Nat) : Int) = p - 2 by omega]
    unfold corbellaw16_RebuildEnds_j3
    simp only [Bool.not_true, cond_false, decide_true]
    have other : ∃ o, 0 ≤ o ∧ o < a0 ∧ o ≠ s ∧ Int.tmod (wrap64 (s + 1)) a0 = o := by
      refine ⟨(s + 1) % a0, Int.emod_nonneg _ (by omega), Int.emod_lt_of_pos _ (by omega), fun e => ?_, by rw [w64 (n := s + 1) (by omega) (by omega), tmod_pos (by omega)]⟩
      by_cases c : s + 1 < a0
      · rw [Int.emod_eq_of_lt (by omega) c] at e; omega
      · rw [show s + 1 = a0 by omega, Int.emod_self] at e; omega
    obtain ⟨o, o0, o1, os, eo⟩ := other
    rw [hasv ba bb bd s p s p s0 s1, decide_eq_true rfl, decide_eq_false (Int.lt_irrefl p), eo, hasv ba bb bd s p o p o0 o1, decide_eq_false os, decide_eq_false (show ¬ a0 = 0 by omega)]
    simp only [Bool.not_true, Bool.not_false, Bool.or_false, Bool.true_or, optb_some, cond_false]
    rw [hasv ba bb bd s p s (wrap64 (p - 1)) s0 s1, decide_eq_true rfl, w64 (n := p - 1) (by omega) (by omega), decide_eq_true (show p - 1 < p by omega)]
    simp only [Bool.not_true, Bool.or_true, optb_some, cond_false]
    have fin : corbellaw16_RebuildEnds_j4 (corbellaw16_RebuildEnds_k0 (fun v_10271 ba_10283 bb_10284 bc_10285 bd_10286 be_10287 bf_10288 bg_10289 seen_10293 => e0 v_10271 ba_10283 bb_10284 bc_10285 bd_10286 be_10287 bf_10288 bg_10289 seen_10293) (fun ba_10306 bb_10307 bc_10308 bd_10309 be_10310 bf_10311 bg_10312 seen_10316 => corbellaw16_RebuildEnds_j7 (fun p_10341 => corbellaw16_RebuildEnds_l2 e0 e1 k s a0 a1 a0 a1 a2 a3 a4 j p_10341 ba_10306 bb_10307 bc_10308 bd_10309 be_10310 bf_10311 bg_10312 seen_10316) k p) k ba bb Z bd M s p seen)
        (corbellaw16_RebuildEnds_k1 (fun v_10271 ba_10283 bb_10284 bc_10285 bd_10286 be_10287 bf_10288 bg_10289 seen_10293 => e0 v_10271 ba_10283 bb_10284 bc_10285 bd_10286 be_10287 bf_10288 bg_10289 seen_10293) (fun ba_10306 bb_10307 bc_10308 bd_10309 be_10310 bf_10311 bg_10312 seen_10316 => corbellaw16_RebuildEnds_j7 (fun p_10341 => corbellaw16_RebuildEnds_l2 e0 e1 k s a0 a1 a0 a1 a2 a3 a4 j p_10341 ba_10306 bb_10307 bc_10308 bd_10309 be_10310 bf_10311 bg_10312 seen_10316) k p) k ba bb Z bd M s p a0 a1 a2 a3 a4 p seen r) k false = some true := by
      unfold corbellaw16_RebuildEnds_j4 corbellaw16_RebuildEnds_k1 corbellaw16_RebuildEnds_j5
      rw [cond_false]
      rcases hrr with ⟨rfl, hno⟩ | ⟨r0, r1, hz1⟩
      · rw [decide_eq_false (show ¬ (0 : Int) ≤ -1 by decide), cond_false]
        refine step seen ?_
        rw [hsucc, dc_f (fun ⟨z, z0, z1, e⟩ => hno z z0 (by omega) (by unfold zp at e; omega)), cond_false, hs]; omega
      · rw [decide_eq_true r0, cond_true, cond_true, gat_some (0, 0, 0) r0 r1, optb_some, hz1, decide_eq_true rfl]
        simp only [Bool.not_true, cond_false]
        rw [List.length_singleton, decide_eq_true (show seen.length + 1 ≤ 1099511627776 by omega), cond_true]
        refine step (seen ++ [r]) ?_
        rw [hsucc, dc_t ⟨r, r0, by omega, by unfold zp; omega⟩, cond_true, List.length_append, List.length_singleton]; omega
    by_cases c2 : 2 < p
    · rw [decide_eq_true c2, cond_true]; exact fin
    · rw [decide_eq_false c2, cond_false]; exact fin
theorem speaks16 (d : Nat) : corbellaw16_speaks (d + 300) = some true := by kernel_rfl
theorem ends_main (a0 a1 a2 a3 a4 slot : Int) (ob : Bool) (L : List Int) : corbellaw16_RebuildEnds (9700 + 300) a0 a1 a2 a3 a4 slot ob L = some true := by
  unfold corbellaw16_RebuildEnds
  rw [speaks16, optb_some]
  generalize hk : 9700 + 300 = k
  rw [refgood_val, optb_some]
  by_cases g : GG a0 a1 a2 a3 a4
  · have h1 := g.1
    have h2 := g.2.1
    have h3 := g.2.2.1
    have h4 := g.2.2.2.1
    rw [decide_eq_true g]
    simp only [Bool.not_true, cond_false]
    rw [decide_eq_false (show ¬ a0 = 0 by omega), cond_false, cond_false]
    have m0 := Int.lt_tmod_of_pos slot (show 0 < a0 by omega)
    have m1 := Int.tmod_lt_of_pos slot (show 0 < a0 by omega)
    have s0 := Int.emod_nonneg (Int.tmod slot a0 + a0) (show a0 ≠ 0 by omega)
    have s1 := Int.emod_lt_of_pos (Int.tmod slot a0 + a0) (show 0 < a0 by omega)
    rw [w64 (n := Int.tmod slot a0 + a0) (by omega) (by omega), tmod_pos (a := Int.tmod slot a0 + a0) (by omega)]
    generalize (Int.tmod slot a0 + a0) % a0 = s at *
    obtain ⟨Z, M, hn, z1, z2, l1, l2⟩ := new_is (a0 := a0) (a1 := a1) (a2 := a2) (a3 := a3) (a4 := a4) k (by omega) g
    have hM0 : ∀ q : Int, 0 ≤ q → q < a0 → lat M q ≠ a0 := fun q q0 q1 => by rw [l2 q q0 q1]; omega
    have hZ : WZ a1 Z := ⟨z1, fun q q0 q1 => by unfold zp; rw [z2 q q0 q1]; simp only; omega, fun q r q0 q1 r0 r1 e => by unfold zp at e; rw [z2 q q0 q1, z2 r r0 r1] at e; simp only at e; omega⟩
    rw [hn, optb_some]
    simp only
    refine l0_val _ k (by omega) g L M l1 (fun ba bb Z bd hz => ?_) 20 k 0 0 true Z true (Int.le_refl 0) (by decide) rfl (by omega) hZ
    have hlz := hz.len
    obtain ⟨q0, q1, q, b1, b2, hb⟩ := begin_ok (a0 := a0) (a1 := a1) (a2 := a2) (a3 := a3) (a4 := a4) k (by omega) g ba bb Z bd M (-1) 0 s (by omega) l1 s0 s1 (.inl (by decide)) hM0
    rw [hb, optb_some]
    simp only [decide_true, Bool.not_true, cond_false]
    have hlM : ((M.set s.toNat a0).length : Int) = a0 := by rw [List.length_set]; exact l1
    have hls : lat (M.set s.toNat a0) s = a0 := by rw [lat_set s0 (by omega) _ s0, if_pos rfl]
    have := l2_val (fun v_10364 ba_10375 bb_10376 bc_10377 bd_10378 be_10379 bf_10380 bg_10381 seen_10385 => some v_10364) (fun ba_10397 bb_10398 bc_10399 bd_10400 be_10401 bf_10402 bg_10403 seen_10407 =>
      optb (rebuild_Next k a0 a1 a2 a3 a4 ba_10397 bb_10398 bc_10399 bd_10400 be_10401 bf_10402 bg_10403) fun r_10408 =>
      optb (rebuild_Begin k a0 a1 a2 a3 a4 ba_10397 bb_10398 bc_10399 bd_10400 be_10401 bf_10402 bg_10403 s) fun r_10409 =>
      bif (!r_10408.2.2) then
        bif (decide (bf_10402 = (-1 : Int))) then
          optb (book_Book_Has k ba_10397 bb_10398 bc_10399 bd_10400 be_10401 bf_10402 bg_10403 s (2 : Int)) fun r_10410 =>
          bif r_10410 then
            optb (geom_Zones k a0 a1 a2 a3 a4) fun r_10411 =>
            bif (decide ((lenI seen_10407) = r_10411)) then
              some (decide (r_10409.2.2 = (13 : Int)))
            else some false
          else some false
        else some false
      else some false) k (by omega) g s s0 s1 Z hz (M.set s.toNat a0) hlM (fun ba bb bd seen hseen => by
        obtain ⟨v, hv, hv2⟩ := begin_none (a0 := a0) (a1 := a1) (a2 := a2) (a3 := a3) (a4 := a4) k (by omega) g ba bb Z bd (M.set s.toNat a0) 0 s hlM s0 s1 hls
        have hnx : ∃ w, rebuild_Next k a0 a1 a2 a3 a4 ba bb Z bd (M.set s.toNat a0) (-1) 0 = some w ∧ w.2.2 = false := ⟨_, rfl, rfl⟩
        obtain ⟨w, hw, hw2⟩ := hnx
        simp only
        rw [hw, optb_some, hv, optb_some, hw2, hv2, has_val, decide_eq_true s0, decide_eq_true (show s < ((M.set s.toNat a0).length : Int) by omega), decide_eq_false (show ¬ s = -1 by omega), optb_some, zones_yes k g, optb_some, lenI_eq, decide_eq_true hseen]
        rfl) (a1 - 2).toNat k 2 q b1 b2 [] (Int.le_refl 2) (by omega) rfl (by omega) rfl
    rw [if_pos (show (2 : Int) < a1 by omega), if_pos (show (2 : Int) < a1 by omega)] at this
    exact this
  · rw [decide_eq_false g]; rfl
end
theorem RebuildEnds : RebuildEndsPure := fun x0 x1 x2 _ _ _ => ⟨9700 + 300, ends_main _ _ _ _ _ _ _ _⟩
end Go.Proofs.Ythilffdaofaalaa.Pure
