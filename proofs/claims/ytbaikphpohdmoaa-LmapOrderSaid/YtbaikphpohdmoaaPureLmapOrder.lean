/- LmapOrder: the pure statement, over numbers and lists alone; no conditions. -/
import Derived.Test.YtbaikphpohdmoaaStatLmapOrder
set_option linter.unusedVariables false
set_option linter.unusedSimpArgs false
namespace Go.Proofs.Ytbaikphpohdmoaa.Pure
open Go Go.RowKit Go.Proofs.Ytbaikphpohdmoaa.Ev
/-! ### whole numbers -/
theorem wf_i64 {n : Int} (h : Ty.wf (.int .i64) n) : -9223372036854775808 ≤ n ∧ n ≤ 9223372036854775807 := by
  have h : (Lit.int .i64 n).wf = true := h
  simpa [Lit.wf, IntKind.min, IntKind.max, IntKind.signed, IntKind.bits] using h
theorem w64 {n : Int} (h0 : -9223372036854775808 ≤ n) (h1 : n ≤ 9223372036854775807) : wrap64 n = n := by unfold wrap64; omega
theorem tdiv_pos {a b : Int} (ha : 0 ≤ a) : Int.tdiv a b = a / b := Int.tdiv_eq_ediv_of_nonneg ha
theorem tmod_pos {a b : Int} (ha : 0 ≤ a) : Int.tmod a b = a % b := Int.tmod_eq_emod_of_nonneg ha
theorem bytesOf_append (a b : List Int) : bytesOf a ++ bytesOf b = bytesOf (a ++ b) := by
  apply ByteArray.ext
  simp [bytesOf]
theorem cond_t {α : Type} {c : Bool} {a b : α} (h : c = true) : (bif c then a else b) = a := by rw [h]; rfl
theorem cond_f {α : Type} {c : Bool} {a b : α} (h : c = false) : (bif c then a else b) = b := by rw [h]; rfl
theorem optb_some {α β : Type} (a : α) (f : α → Option β) : optb (some a) f = f a := rfl
/-! ### loops over whole numbers -/
noncomputable def dc (P : Prop) : Bool := @decide P (Classical.propDecidable P)
theorem dc_t {P : Prop} (h : P) : dc P = true := @decide_eq_true P (Classical.propDecidable P) h
theorem dc_f {P : Prop} (h : ¬ P) : dc P = false := @decide_eq_false P (Classical.propDecidable P) h
theorem dc_iff {P : Prop} : dc P = true ↔ P := ⟨fun h => @of_decide_eq_true P (Classical.propDecidable P) h, dc_t⟩
theorem dc_congr {P Q : Prop} (h : P ↔ Q) : dc P = dc Q := by rw [propext h]
theorem dc_dec {P : Prop} [Decidable P] : decide P = dc P := by
  by_cases h : P
  · rw [decide_eq_true h, dc_t h]
  · rw [decide_eq_false h, dc_f h]
theorem dc_and (P Q : Prop) : (dc P && dc Q) = dc (P ∧ Q) := by
  by_cases h : P
  · by_cases h2 : Q
    · rw [dc_t h, dc_t h2, dc_t ⟨h, h2⟩]; rfl
    · rw [dc_f h2, dc_f (fun x : P ∧ Q => h2 x.2), Bool.and_false]
  · rw [dc_f h, dc_f (fun x : P ∧ Q => h x.1)]; rfl
/-- up to the first number without `P` -/
theorem loopUp {R : Type} (f : Nat → Int → Option R) (lo to : Int) (P : Int → Prop) (yes : Option R) (no : Int → Option R)
    (hs : ∀ j i, lo ≤ i → i < to → P i → f (j + 1) i = f j (i + 1)) (hn : ∀ j i, lo ≤ i → i < to → ¬ P i → f (j + 1) i = no i) (he : ∀ j i, lo ≤ i → to ≤ i → f (j + 1) i = yes) :
    ∀ n j i, lo ≤ i → (to - i).toNat = n → n < j → ((∀ q, i ≤ q → q < to → P q) ∧ f j i = yes) ∨ (∃ q, i ≤ q ∧ q < to ∧ ¬ P q ∧ (∀ u, i ≤ u → u < q → P u) ∧ f j i = no q) := by
  intro n
  induction n with
  | zero =>
    intro j i hl h hj
    obtain ⟨j, rfl⟩ : ∃ u, j = u + 1 := ⟨j - 1, by omega⟩
    exact .inl ⟨fun q h1 h2 => absurd h2 (by omega), he j i hl (by omega)⟩
  | succ n ih =>
    intro j i hl h hj
    obtain ⟨j, rfl⟩ : ∃ u, j = u + 1 := ⟨j - 1, by omega⟩
    by_cases hp : P i
    · rw [hs j i hl (by omega) hp]
      rcases ih j (i + 1) (by omega) (by omega) (by omega) with ⟨h1, h2⟩ | ⟨q, h1, h2, h3, h4, h5⟩
      · refine .inl ⟨fun q h3 h4 => ?_, h2⟩
        by_cases e : q = i
        · rw [e]; exact hp
        · exact h1 q (by omega) h4
      · refine .inr ⟨q, by omega, h2, h3, fun u h6 h7 => ?_, h5⟩
        by_cases e : u = i
        · rw [e]; exact hp
        · exact h4 u (by omega) h7
    · exact .inr ⟨i, by omega, by omega, hp, fun u h1 h2 => absurd h2 (by omega), hn j i hl (by omega) hp⟩
/-- the same, for a loop that ends where it should -/
theorem loopTo {R : Type} (f : Nat → Int → Option R) (lo to : Int) (P : Int → Prop) (yes : Option R) (no : Int → Option R)
    (hs : ∀ j i, lo ≤ i → i < to → P i → f (j + 1) i = f j (i + 1)) (hn : ∀ j i, lo ≤ i → i < to → ¬ P i → f (j + 1) i = no i) (he : ∀ j, f (j + 1) to = yes) :
    ∀ n j i, lo ≤ i → i ≤ to → (to - i).toNat = n → n < j → ((∀ q, i ≤ q → q < to → P q) ∧ f j i = yes) ∨ (∃ q, i ≤ q ∧ q < to ∧ ¬ P q ∧ (∀ u, i ≤ u → u < q → P u) ∧ f j i = no q) := by
  intro n
  induction n with
  | zero =>
    intro j i hl hle h hj
    obtain ⟨j, rfl⟩ : ∃ u, j = u + 1 := ⟨j - 1, by omega⟩
    exact .inl ⟨fun q h1 h2 => absurd h2 (by omega), by rw [show i = to by omega]; exact he j⟩
  | succ n ih =>
    intro j i hl hle h hj
    obtain ⟨j, rfl⟩ : ∃ u, j = u + 1 := ⟨j - 1, by omega⟩
    by_cases hp : P i
    · rw [hs j i hl (by omega) hp]
      rcases ih j (i + 1) (by omega) (by omega) (by omega) (by omega) with ⟨h1, h2⟩ | ⟨q, h1, h2, h3, h4, h5⟩
      · refine .inl ⟨fun q h3 h4 => ?_, h2⟩
        by_cases e : q = i
        · rw [e]; exact hp
        · exact h1 q (by omega) h4
      · refine .inr ⟨q, by omega, h2, h3, fun u h6 h7 => ?_, h5⟩
        by_cases e : u = i
        · rw [e]; exact hp
        · exact h4 u (by omega) h7
    · exact .inr ⟨i, by omega, by omega, hp, fun u h1 h2 => absurd h2 (by omega), hn j i hl (by omega) hp⟩
theorem loopAll {R : Type} (f : Nat → Int → Option R) (lo to : Int) (P : Int → Prop) (yes no : Option R)
    (hs : ∀ j i, lo ≤ i → i < to → P i → f (j + 1) i = f j (i + 1)) (hn : ∀ j i, lo ≤ i → i < to → ¬ P i → f (j + 1) i = no) (he : ∀ j i, lo ≤ i → to ≤ i → f (j + 1) i = yes)
    (j : Nat) (i : Int) (hl : lo ≤ i) (hj : (to - i).toNat < j) : f j i = bif dc (∀ q, i ≤ q → q < to → P q) then yes else no := by
  rcases loopUp f lo to P yes (fun _ => no) hs hn he _ j i hl rfl hj with ⟨h1, h2⟩ | ⟨q, h1, h2, h3, _, h5⟩
  · rw [dc_t h1, h2]; rfl
  · rw [dc_f (fun h => h3 (h q h1 h2)), h5]; rfl
/-- the last number below `n` with `P` -/
noncomputable def lastI (P : Int → Prop) : Nat → Int
  | 0 => -1
  | n + 1 => bif dc (P n) then n else lastI P n
theorem lastI_lt (P : Int → Prop) (n : Nat) : -1 ≤ lastI P n ∧ lastI P n < n := by
  induction n with
  | zero => exact ⟨Int.le_refl (-1), by show (-1 : Int) < 0; decide⟩
  | succ n ih =>
    unfold lastI
    cases dc (P n) with
    | true => rw [cond_true]; omega
    | false => rw [cond_false]; omega
theorem lastI_yes (P : Int → Prop) (n : Nat) (h : 0 ≤ lastI P n) : P (lastI P n) := by
  induction n with
  | zero => exact absurd (show (0 : Int) ≤ -1 from h) (by decide)
  | succ n ih =>
    unfold lastI at h ⊢
    by_cases hp : P n
    · rw [dc_t hp]; exact hp
    · rw [dc_f hp] at h ⊢; exact ih h
theorem lastI_no (P : Int → Prop) (n : Nat) : 0 ≤ lastI P n ↔ ∃ q : Nat, q < n ∧ P q := by
  induction n with
  | zero => exact ⟨fun h => absurd (show (0 : Int) ≤ -1 from h) (by decide), fun ⟨q, h, _⟩ => absurd h (by omega)⟩
  | succ n ih =>
    unfold lastI
    by_cases hp : P n
    · rw [dc_t hp]; exact ⟨fun _ => ⟨n, by omega, hp⟩, fun _ => by rw [cond_true]; omega⟩
    · rw [dc_f hp, cond_false, ih]
      refine ⟨fun ⟨q, h1, h2⟩ => ⟨q, by omega, h2⟩, fun ⟨q, h1, h2⟩ => ⟨q, ?_, h2⟩⟩
      by_cases e : q = n
      · rw [e] at h2; exact absurd h2 hp
      · omega
theorem lastI_congr {P Q : Int → Prop} (n : Nat) (h : ∀ q : Nat, q < n → (P q ↔ Q q)) : lastI P n = lastI Q n := by
  induction n with
  | zero => rfl
  | succ n ih => unfold lastI; rw [dc_congr (h n (by omega)), ih (fun q hq => h q (by omega))]
theorem loopDown {R : Type} (f : Nat → Int → Option R) (N : Nat) (P : Int → Prop) (yes : Int → Option R) (no : Option R)
    (hy : ∀ j (i : Nat), i < N → P i → f (j + 1) i = yes i) (hn : ∀ j (i : Nat), i < N → ¬ P i → f (j + 1) i = f j (i - 1)) (he : ∀ j, f (j + 1) (-1) = no) :
    ∀ n j, n ≤ N → n < j → f j (n - 1) = bif decide (0 ≤ lastI P n) then yes (lastI P n) else no := by
  intro n
  induction n with
  | zero =>
    intro j _ hj
    obtain ⟨j, rfl⟩ : ∃ u, j = u + 1 := ⟨j - 1, by omega⟩
    exact he j
  | succ n ih =>
    intro j hN hj
    obtain ⟨j, rfl⟩ : ∃ u, j = u + 1 := ⟨j - 1, by omega⟩
    rw [show ((n + 1 : Nat) : Int) - 1 = (n : Int) by omega]
    unfold lastI
    by_cases hp : P n
    · rw [hy j n (by omega) hp, dc_t hp, cond_true, decide_eq_true (by omega)]; rfl
    · rw [hn j n (by omega) hp, dc_f hp, cond_false]; exact ih j (by omega) (by omega)
/-- a state that is carried along -/
def foldI {S : Type} (g : Int → S → S) : Nat → Int → S → S
  | 0, _, s => s
  | n + 1, i, s => foldI g n (i + 1) (g i s)
theorem loopFold {R S : Type} (f : Nat → S → Int → Option R) (lo to : Int) (g : Int → S → S) (e : S → Option R)
    (hs : ∀ j s i, lo ≤ i → i < to → f (j + 1) s i = f j (g i s) (i + 1)) (he : ∀ j s i, lo ≤ i → to ≤ i → f (j + 1) s i = e s) :
    ∀ n j s i, lo ≤ i → (to - i).toNat = n → n < j → f j s i = e (foldI g n i s) := by
  intro n
  induction n with
  | zero =>
    intro j s i hl h hj
    obtain ⟨j, rfl⟩ : ∃ u, j = u + 1 := ⟨j - 1, by omega⟩
    exact he j s i hl (by omega)
  | succ n ih =>
    intro j s i hl h hj
    obtain ⟨j, rfl⟩ : ∃ u, j = u + 1 := ⟨j - 1, by omega⟩
    rw [hs j s i hl (by omega), ih j _ _ (by omega) (by omega) (by omega)]; rfl
theorem foldI_and (P : Int → Prop) : ∀ n i a, foldI (fun i a => a && dc (P i)) n i a = (a && dc (∀ q, i ≤ q → q < i + (n : Nat) → P q)) := by
  intro n
  induction n with
  | zero => intro i a; rw [dc_t (fun q h1 h2 => absurd h2 (by omega)), Bool.and_true]; rfl
  | succ n ih =>
    intro i a
    show foldI _ n (i + 1) (a && dc (P i)) = _
    rw [ih, Bool.and_assoc, dc_and]
    congr 1
    refine dc_congr ⟨fun ⟨h, h'⟩ q h1 h2 => ?_, fun h => ⟨h i (by omega) (by omega), fun q h1 h2 => h q (by omega) (by omega)⟩⟩
    by_cases e : q = i
    · rw [e]; exact h
    · exact h' q (by omega) (by omega)
theorem foldI_snoc {S : Type} (g : Int → S → S) : ∀ n i s, foldI g (n + 1) i s = g (i + (n : Nat)) (foldI g n i s) := by
  intro n
  induction n with
  | zero => intro i s; show g i s = g (i + 0) s; rw [Int.add_zero]
  | succ n ih =>
    intro i s
    show foldI g (n + 1) (i + 1) (g i s) = _
    rw [ih]
    show g (i + 1 + (n : Nat)) _ = g (i + ((n + 1 : Nat) : Int)) (foldI g n (i + 1) (g i s))
    congr 1; omega
theorem foldI_last (P : Int → Prop) (n : Nat) : foldI (fun i a => bif dc (P i) then i else a) n 0 (-1) = lastI P n := by
  induction n with
  | zero => rfl
  | succ n ih => rw [foldI_snoc, ih]; show _ = (bif dc (P n) then (n : Int) else lastI P n); rw [Int.zero_add]
/-! ### reading a list -/
def lat (L : List Int) (q : Int) : Int := L.getD q.toNat 0
theorem lat_some {L : List Int} {q : Int} (h0 : 0 ≤ q) (h1 : q < L.length) : L[q.toNat]? = some (lat L q) := by
  have h : q.toNat < L.length := by omega
  unfold lat
  rw [List.getD_eq_getElem?_getD, List.getElem?_eq_getElem h]; rfl
theorem lat_wf {L : List Int} {b : Bool} (h : Ty.wf (.sl (.int .i64)) (b, L)) (q : Int) (h0 : 0 ≤ q) (h1 : q < L.length) : -9223372036854775808 ≤ lat L q ∧ lat L q ≤ 9223372036854775807 := by
  have hm : lat L q ∈ L := by
    have h : q.toNat < L.length := by omega
    unfold lat
    rw [List.getD_eq_getElem?_getD, List.getElem?_eq_getElem h]; exact List.getElem_mem h
  exact wf_i64 (h.2.2 _ hm)
theorem mod_in {x c : Int} (hx : -9223372036854775808 ≤ x ∧ x ≤ 9223372036854775807) (c0 : 0 < c) (c1 : c ≤ 1000000) : 0 ≤ Int.tmod (wrap64 (wrap64 (Int.tmod x c + (c - 1)) + 1)) c ∧ Int.tmod (wrap64 (wrap64 (Int.tmod x c + (c - 1)) + 1)) c < c := by
  have m0 := Int.lt_tmod_of_pos x c0
  have m1 := Int.tmod_lt_of_pos x c0
  rw [w64 (n := Int.tmod x c + (c - 1)) (by omega) (by omega), w64 (by omega) (by omega), tmod_pos (by omega)]
  exact ⟨Int.emod_nonneg _ (by omega), Int.emod_lt_of_pos _ c0⟩
theorem mod_in2 {x c : Int} (hx : -9223372036854775808 ≤ x ∧ x ≤ 9223372036854775807) (c0 : 0 < c) (c1 : c ≤ 1000000) : 0 ≤ Int.tmod (wrap64 (Int.tmod x c + c)) c ∧ Int.tmod (wrap64 (Int.tmod x c + c)) c < c := by
  have m0 := Int.lt_tmod_of_pos x c0
  have m1 := Int.tmod_lt_of_pos x c0
  rw [w64 (n := Int.tmod x c + c) (by omega) (by omega), tmod_pos (by omega)]
  exact ⟨Int.emod_nonneg _ (by omega), Int.emod_lt_of_pos _ c0⟩
theorem lat_app (L : List Int) (x : Int) {q : Int} (h0 : 0 ≤ q) : lat (L ++ [x]) q = if q < L.length then lat L q else if q = L.length then x else 0 := by
  unfold lat
  rw [List.getD_eq_getElem?_getD, List.getD_eq_getElem?_getD]
  by_cases h : q < L.length
  · rw [if_pos h, List.getElem?_append_left (by omega)]
  · rw [if_neg h, List.getElem?_append_right (by omega)]
    by_cases e : q = L.length
    · rw [if_pos e, show q.toNat - L.length = 0 by omega]; rfl
    · rw [if_neg e, List.getElem?_eq_none (by rw [List.length_singleton]; omega)]; rfl
theorem speaks19 (d : Nat) : corbellaw19_speaks (d + 300) = some true := by kernel_rfl
/-! ### maps as lists of entries -/
theorem eqb_iff : ∀ (t : Ty) (x y : t.den), t.noSl = true → (t.eqb x y = true ↔ x = y) := eqb_eq
theorem mget_put {α : Type} {K : Ty} (hn : K.noSl = true) (k k' : K.den) (v : α) (c : Nat) : ∀ D : List (Nat × K.den × α), mget K (mput K k v c D) k' = bif K.eqb k' k then some v else mget K D k'
  | [] => by simp only [mput, mget]
  | d :: r => by
    simp only [mput]
    cases h : K.eqb k d.2.1 with
    | true =>
      rw [cond_true]
      simp only [mget]
      have e := (eqb_iff K _ _ hn).1 h
      rw [← e]
      cases K.eqb k' k <;> rfl
    | false =>
      rw [cond_false]
      simp only [mget]
      cases h2 : K.eqb k' d.2.1 with
      | true =>
        have e := (eqb_iff K _ _ hn).1 h2
        have : K.eqb k' k = false := by
          cases h3 : K.eqb k' k with
          | false => rfl
          | true =>
            have e3 := (eqb_iff K _ _ hn).1 h3
            rw [← e3, e] at h
            rw [(eqb_iff K _ _ hn).2 rfl] at h; cases h
        rw [this]; rfl
      | false => rw [cond_false]; exact mget_put hn k k' v c r
theorem mget_puti {α : Type} (k k' : Int) (v : α) (c : Nat) (D : List (Nat × Int × α)) : mget (.int .i64) (mput (.int .i64) k v c D) k' = if k' = k then some v else mget (.int .i64) D k' := by
  rw [mget_put (K := .int .i64) rfl]
  show (bif decide (k' = k) then _ else _) = _
  by_cases h : k' = k
  · rw [decide_eq_true h, if_pos h]; rfl
  · rw [decide_eq_false h, if_neg h]; rfl
/-! ### lmap's Add: which entry a block has -/
abbrev Vn : Type := (Int × (Int × Int)) × (Int × Bool)
abbrev Dn : Type := List (Nat × Int × Vn)
abbrev gt (D : Dn) (b : Int) : Option Vn := mget (.int .i64) D b
def zn : Vn := Ty.zero (.pair (.pair (.int .i64) (.pair (.int .i64) (.int .i64))) (.pair (.int .i64) .bool))
def addE (zone at_ seq : Int) : List (Int × Bool) → Int → Dn × Nat → Dn × Nat
  | [], _, s => s
  | e :: r, i, s => addE zone at_ seq r (i + 1) (bif mhas (.int .i64) s.1 e.1 && decide (seq < (mval (.int .i64) zn s.1 e.1).2.1) then s
      else (mput (.int .i64) e.1 ((zone, (at_, i)), (seq, e.2)) s.2 s.1, mclk (.int .i64) s.1 e.1 s.2))
def ownE (zone at_ seq : Int) : List (Int × Bool) → Int → Int → Option Vn
  | [], _, _ => none
  | e :: r, i, b => match ownE zone at_ seq r (i + 1) b with
    | some v => some v
    | none => if b = e.1 then some ((zone, (at_, i)), (seq, e.2)) else none
theorem ownE_cons (zone at_ seq : Int) (e : Int × Bool) (r : List (Int × Bool)) (i b : Int) : ownE zone at_ seq (e :: r) i b = match ownE zone at_ seq r (i + 1) b with
    | some v => some v
    | none => if b = e.1 then some ((zone, (at_, i)), (seq, e.2)) else none := rfl
theorem ownE_seq {zone at_ seq : Int} : ∀ (es : List (Int × Bool)) (i b : Int) (v : Vn), ownE zone at_ seq es i b = some v → v.2.1 = seq
  | [], _, _, _, h => by simp [ownE] at h
  | e :: r, i, b, v, h => by
    unfold ownE at h
    split at h
    · rename_i w hw; cases h; exact ownE_seq r _ _ _ hw
    · split at h
      · cases h; rfl
      · cases h
/-- What a block has behind a group: the group's entry, if there is one and nothing newer was there. -/
def joinE (o n : Option Vn) (seq : Int) : Option Vn := match n with
  | none => o
  | some v => match o with
    | some w => if seq < w.2.1 then some w else some v
    | none => some v
theorem addE_get {zone at_ seq : Int} : ∀ (es : List (Int × Bool)) (i : Int) (s : Dn × Nat) (b : Int), gt (addE zone at_ seq es i s).1 b = joinE (gt s.1 b) (ownE zone at_ seq es i b) seq
  | [], _, _, _ => rfl
  | e :: r, i, s, b => by
    unfold addE
    rw [addE_get r]
    -- what this entry does
    have h1 : ∀ b, gt ((bif mhas (.int .i64) s.1 e.1 && decide (seq < (mval (.int .i64) zn s.1 e.1).2.1) then s else (mput (.int .i64) e.1 ((zone, (at_, i)), (seq, e.2)) s.2 s.1, mclk (.int .i64) s.1 e.1 s.2)) : Dn × Nat).1 b =
        joinE (gt s.1 b) (if b = e.1 then some ((zone, (at_, i)), (seq, e.2)) else none) seq := fun b => by
      unfold mhas mval
      by_cases hb : b = e.1
      · subst hb
        rw [if_pos rfl]
        unfold joinE
        cases hg : gt s.1 e.1 with
        | none =>
          have hg' : mget (.int .i64) s.1 e.1 = none := hg
          rw [hg']
          simp only [Option.isSome_none, Bool.false_and, cond_false]
          show mget (.int .i64) (mput (.int .i64) e.1 _ s.2 s.1) e.1 = _
          rw [mget_puti, if_pos rfl]
        | some w =>
          have hg' : mget (.int .i64) s.1 e.1 = some w := hg
          rw [hg']
          simp only [Option.isSome_some, Bool.true_and, Option.getD_some]
          by_cases hs : seq < w.2.1
          · rw [decide_eq_true hs, cond_true, if_pos hs]; exact hg'
          · rw [decide_eq_false hs, cond_false, if_neg hs]
            show mget (.int .i64) (mput (.int .i64) e.1 _ s.2 s.1) e.1 = _
            rw [mget_puti, if_pos rfl]
      · rw [if_neg hb]
        show _ = gt s.1 b
        cases (mget (.int .i64) s.1 e.1).isSome && decide (seq < ((mget (.int .i64) s.1 e.1).getD zn).2.1) with
        | true => rfl
        | false =>
          show mget (.int .i64) (mput (.int .i64) e.1 _ s.2 s.1) b = _
          rw [mget_puti, if_neg hb]
    rw [h1 b, ownE_cons]
    cases ho : ownE zone at_ seq r (i + 1) b with
    | none => rfl
    | some v =>
      have hv := ownE_seq r _ _ _ ho
      by_cases hb : b = e.1
      · rw [if_pos hb]
        unfold joinE
        cases hg : gt s.1 b with
        | none => simp only; rw [if_neg (Int.lt_irrefl _)]
        | some w =>
          simp only
          by_cases hs : seq < w.2.1
          · rw [if_pos hs]; try simp only [if_pos hs]
          · rw [if_neg hs]; simp only [if_neg hs, if_neg (Int.lt_irrefl _)]
      · rw [if_neg hb]; rfl
abbrev Gp : Type := Int × (Int × (Int × (Bool × List Int)))
def ents (g : Gp) : List (Int × Bool) := (g.2.2.2.2.take 10).map fun b => (bitop .and .i64 b 15, false)
def gAt (L : List Gp) (q : Int) : Gp := L.getD q.toNat (0, (0, (0, (true, []))))
theorem gAt_some {L : List Gp} {q : Int} (h0 : 0 ≤ q) (h1 : q < L.length) : L[q.toNat]? = some (gAt L q) := by
  have h : q.toNat < L.length := by omega
  unfold gAt
  rw [List.getD_eq_getElem?_getD, List.getElem?_eq_getElem h]; rfl
theorem gather {R : Type} (e0 : List (Int × Bool) → Option R) (k : Nat) (L : List Gp) (i : Int) (h0 : 0 ≤ i) (h1 : i < L.length) : ∀ (n kk j : Nat), kk ≤ 10 → 10 - kk = n → n < j →
    corbellaw19_LmapOrder_i12_4_l0 e0 k L i j kk ((ents (gAt L i)).take kk) = e0 (ents (gAt L i)) := by
  have hlen : (ents (gAt L i)).length = min 10 (gAt L i).2.2.2.2.length := by unfold ents; rw [List.length_map, List.length_take]
  have stop : ∀ kk : Nat, kk ≤ 10 → (gAt L i).2.2.2.2.length ≤ kk ∨ kk = 10 → (ents (gAt L i)).take kk = ents (gAt L i) := fun kk h2 h3 => List.take_of_length_le (by rw [hlen]; omega)
  intro n
  induction n with
  | zero =>
    intro kk j hk hn hj
    obtain ⟨j, rfl⟩ : ∃ u, j = u + 1 := ⟨j - 1, by omega⟩
    obtain rfl : kk = 10 := by omega
    rw [corbellaw19_LmapOrder_i12_4_l0]; unfold corbellaw19_LmapOrder_i12_4_l0s
    rw [decide_eq_true h0, cond_true, gAt_some h0 h1, optb_some, decide_eq_false (show ¬ (((10 : Nat) : Int) < 10) by omega), cond_false]
    rw [stop 10 (by omega) (.inr rfl)]
    cases decide (((10 : Nat) : Int) < lenI (gAt L i).2.2.2.2) <;> rfl
  | succ n ih =>
    intro kk j hk hn hj
    obtain ⟨j, rfl⟩ : ∃ u, j = u + 1 := ⟨j - 1, by omega⟩
    rw [corbellaw19_LmapOrder_i12_4_l0]; unfold corbellaw19_LmapOrder_i12_4_l0s
    rw [decide_eq_true h0, cond_true, gAt_some h0 h1, optb_some, lenI_eq]
    by_cases hb : kk < (gAt L i).2.2.2.2.length
    · rw [decide_eq_true (show (kk : Int) < ((gAt L i).2.2.2.2.length : Int) by omega), cond_true, decide_eq_true (show (kk : Int) < 10 by omega), cond_true, cond_true, optb_some, decide_eq_true (show (0 : Int) ≤ kk by omega), cond_true, Int.toNat_natCast, List.getElem?_eq_getElem hb, optb_some]
      rw [decide_eq_true (by rw [List.length_take, hlen, List.length_singleton]; omega), cond_true, w64 (by omega) (by omega)]
      have hsn : (ents (gAt L i)).take kk ++ [(bitop .and .i64 (gAt L i).2.2.2.2[kk] 15, false)] = (ents (gAt L i)).take (kk + 1) := by
        have hk' : kk < (ents (gAt L i)).length := by rw [hlen]; omega
        rw [List.take_add_one, List.getElem?_eq_getElem hk']
        unfold ents
        simp
      rw [hsn, show (kk : Int) + 1 = ((kk + 1 : Nat) : Int) by omega]
      exact ih (kk + 1) j (by omega) (by omega) (by omega)
    · rw [decide_eq_false (by omega), cond_false, stop kk hk (.inl (by omega))]
theorem gather2 : @corbellaw19_LmapOrder_i12_6_l0 Bool = @corbellaw19_LmapOrder_i12_4_l0 Bool := by kernel_rfl
theorem added2 : @corbellaw19_LmapOrder_i20_8_l0 Bool = @corbellaw19_LmapOrder_i20_6_l0 Bool := by kernel_rfl
theorem added {R : Type} (e0 : Dn → Nat → Option R) (k : Nat) (zone at_ seq : Int) : ∀ (r p : List (Int × Bool)) (j : Nat) (D : Dn) (c : Nat), p.length + r.length ≤ 1000 → r.length < j →
    corbellaw19_LmapOrder_i20_6_l0 e0 k zone at_ (lenI (p ++ r)) (p ++ r) seq j p.length D c = e0 (addE zone at_ seq r p.length (D, c)).1 (addE zone at_ seq r p.length (D, c)).2
  | [], p, j, D, c, hl, hj => by
    obtain ⟨j, rfl⟩ : ∃ u, j = u + 1 := ⟨j - 1, by omega⟩
    rw [corbellaw19_LmapOrder_i20_6_l0]; unfold corbellaw19_LmapOrder_i20_6_l0s
    rw [lenI_eq, List.append_nil, decide_eq_false (Int.lt_irrefl _), cond_false]; rfl
  | x :: r, p, j, D, c, hl, hj => by
    rw [List.length_cons] at hj hl
    obtain ⟨j, rfl⟩ : ∃ u, j = u + 1 := ⟨j - 1, by omega⟩
    have hx : (p ++ x :: r)[(p.length : Int).toNat]? = some x := by rw [Int.toNat_natCast, List.getElem?_append_right (Nat.le_refl _), Nat.sub_self]; rfl
    have hlen : (p.length : Int) < ((p ++ x :: r).length : Int) := by rw [List.length_append, List.length_cons]; omega
    rw [corbellaw19_LmapOrder_i20_6_l0]; unfold corbellaw19_LmapOrder_i20_6_l0s
    rw [lenI_eq, decide_eq_true hlen, decide_eq_true (show (0 : Int) ≤ p.length by omega), hx]
    simp only [Bool.and_self, cond_true, optb_some]
    unfold corbellaw19_LmapOrder_i20_6_j1 corbellaw19_LmapOrder_i20_6_j2
    rw [w64 (n := (p.length : Int) + 1) (by omega) (by omega)]
    have ih := fun D c => added e0 k zone at_ seq r (p ++ [x]) j D c (by rw [List.length_append, List.length_singleton]; omega) (by omega)
    rw [List.append_assoc, List.singleton_append, List.length_append, List.length_singleton, lenI_eq, show ((p.length + 1 : Nat) : Int) = (p.length : Int) + 1 by omega] at ih
    dsimp only
    rw [ih, ih, addE]
    show (bif mhas (.int .i64) D x.1 then bif decide (seq < (mval (.int .i64) zn D x.1).2.1) then _ else _ else _) = _
    cases mhas (.int .i64) D x.1 with
    | false => rfl
    | true =>
      cases decide (seq < (mval (.int .i64) zn D x.1).2.1) with
      | false => rfl
      | true => rfl
/-- What a group has of a block. -/
def og (L : List Gp) (q b : Int) : Option Vn := ownE (bitop .and .i64 (gAt L q).1 3) q (7 * q + 3) (ents (gAt L q)) 0 b
def InvS (L : List Gp) (D : Dn) (s : Int) (S : Int → Prop) : Prop :=
  (∀ b, (gt D b = none ∧ ∀ q, S q → og L q b = none) ∨ ∃ q, S q ∧ (og L q b).isSome = true ∧ gt D b = og L q b ∧ ∀ q', S q' → (og L q' b).isSome = true → q' ≤ q) ∧
  ((s = 0 ∧ ∀ q, ¬ S q) ∨ ∃ q, S q ∧ s = 7 * q + 3 ∧ ∀ q', S q' → q' ≤ q)
theorem inv_step {L : List Gp} {D : Dn} {c : Nat} {s : Int} {S S' : Int → Prop} {q : Int} (hq : 0 ≤ q) (hS0 : ∀ q', S q' → 0 ≤ q') (h : InvS L D s S) (hS : ∀ q', S' q' ↔ S q' ∨ q' = q) :
    InvS L (addE (bitop .and .i64 (gAt L q).1 3) q (7 * q + 3) (ents (gAt L q)) 0 (D, c)).1 (bif decide (7 * q + 3 > s) then 7 * q + 3 else s) S' := by
  obtain ⟨h1, h2⟩ := h
  refine ⟨fun b => ?_, ?_⟩
  · rw [addE_get]
    show (joinE (gt D b) (og L q b) (7 * q + 3) = none ∧ _) ∨ ∃ q0, _ ∧ _ ∧ joinE (gt D b) (og L q b) (7 * q + 3) = _ ∧ _
    cases ho : og L q b with
    | none =>
      show (gt D b = none ∧ _) ∨ ∃ q0, _ ∧ _ ∧ gt D b = _ ∧ _
      rcases h1 b with ⟨k1, k2⟩ | ⟨q0, k1, k2, k3, k4⟩
      · left
        refine ⟨k1, fun q' hq' => ?_⟩
        rcases (hS q').1 hq' with h | h
        · exact k2 q' h
        · rw [h]; exact ho
      · right
        refine ⟨q0, (hS q0).2 (.inl k1), k2, k3, fun q' hq' hs' => ?_⟩
        rcases (hS q').1 hq' with h | h
        · exact k4 q' h hs'
        · rw [h, ho] at hs'; cases hs'
    | some v =>
      right
      rcases h1 b with ⟨k1, k2⟩ | ⟨q0, k1, k2, k3, k4⟩
      · rw [k1]
        refine ⟨q, (hS q).2 (.inr rfl), by rw [ho]; rfl, by rw [ho]; rfl, fun q' hq' hs' => ?_⟩
        rcases (hS q').1 hq' with h | h
        · rw [k2 q' h] at hs'; cases hs'
        · omega
      · cases hw : og L q0 b with
        | none => rw [hw] at k2; cases k2
        | some w =>
          have hws : w.2.1 = 7 * q0 + 3 := ownE_seq _ _ _ _ hw
          rw [k3, hw]
          unfold joinE
          simp only
          by_cases hlt : 7 * q + 3 < w.2.1
          · rw [if_pos hlt]
            refine ⟨q0, (hS q0).2 (.inl k1), by rw [hw]; rfl, by rw [hw], fun q' hq' hs' => ?_⟩
            rcases (hS q').1 hq' with h | h
            · exact k4 q' h hs'
            · omega
          · rw [if_neg hlt]
            refine ⟨q, (hS q).2 (.inr rfl), by rw [ho]; rfl, by rw [ho], fun q' hq' hs' => ?_⟩
            rcases (hS q').1 hq' with h | h
            · have := k4 q' h hs'; omega
            · omega
  · right
    rcases h2 with ⟨k1, k2⟩ | ⟨q0, k1, k2, k3⟩
    · refine ⟨q, (hS q).2 (.inr rfl), ?_, fun q' hq' => ?_⟩
      · rw [decide_eq_true (by omega)]; rfl
      · rcases (hS q').1 hq' with h | h
        · exact absurd h (k2 q')
        · omega
    · by_cases hlt : q0 < q
      · refine ⟨q, (hS q).2 (.inr rfl), ?_, fun q' hq' => ?_⟩
        · rw [decide_eq_true (by omega)]; rfl
        · rcases (hS q').1 hq' with h | h
          · have := k3 q' h; omega
          · omega
      · refine ⟨q0, (hS q0).2 (.inl k1), ?_, fun q' hq' => ?_⟩
        · rw [decide_eq_false (by omega)]; exact k2
        · rcases (hS q').1 hq' with h | h
          · exact k3 q' h
          · omega
theorem inv_same {L : List Gp} {D D' : Dn} {s s' : Int} {S : Int → Prop} (h : InvS L D s S) (h' : InvS L D' s' S) : (∀ b, gt D b = gt D' b) ∧ s = s' := by
  obtain ⟨h1, h2⟩ := h
  obtain ⟨h1', h2'⟩ := h'
  refine ⟨fun b => ?_, ?_⟩
  · rcases h1 b with ⟨k1, k2⟩ | ⟨q0, k1, k2, k3, k4⟩
    · rcases h1' b with ⟨k1', k2'⟩ | ⟨q0', k1', k2', k3', k4'⟩
      · rw [k1, k1']
      · rw [k2 q0' k1'] at k2'; cases k2'
    · rcases h1' b with ⟨k1', k2'⟩ | ⟨q0', k1', k2', k3', k4'⟩
      · rw [k2' q0 k1] at k2; cases k2
      · have e1 := k4 q0' k1' k2'
        have e2 := k4' q0 k1 k2
        obtain rfl : q0 = q0' := by omega
        rw [k3, k3']
  · rcases h2 with ⟨k1, k2⟩ | ⟨q0, k1, k2, k3⟩
    · rcases h2' with ⟨k1', _⟩ | ⟨q0', k1', _⟩
      · rw [k1, k1']
      · exact absurd k1' (k2 q0')
    · rcases h2' with ⟨_, k2'⟩ | ⟨q0', k1', k2', k3'⟩
      · exact absurd k1 (k2' q0)
      · have e1 := k3 q0' k1'
        have e2 := k3' q0 k1
        omega
theorem both (e0 : Dn → Nat → Int → Dn → Nat → Int → Option Bool) (r : Bool) (k : Nat) (hk : 300 ≤ k) (L : List Gp) (by_ : Int) (hn : (L.length : Int) ≤ 40) (hp : 0 < (L.length : Int)) (hb : 0 ≤ by_ ∧ by_ < L.length)
    (he : ∀ D c s D' c' s', (∀ b, gt D b = gt D' b) → s = s' → e0 D c s D' c' s' = some r) : ∀ (n j : Nat) (i : Int) (D : Dn) (c : Nat) (s : Int) (D' : Dn) (c' : Nat) (s' : Int), 0 ≤ i → i ≤ L.length → ((L.length : Int) - i).toNat = n → n < j →
      InvS L D s (fun q => 0 ≤ q ∧ q < i) → InvS L D' s' (fun q => ∃ u, 0 ≤ u ∧ u < i ∧ q = (u + by_) % L.length) → corbellaw19_LmapOrder_l1 e0 k L by_ j i D c s D' c' s' = some r := by
  intro n
  induction n with
  | zero =>
    intro j i D c s D' c' s' h0 h1 hn' hj hA hB
    obtain ⟨j, rfl⟩ : ∃ u, j = u + 1 := ⟨j - 1, by omega⟩
    obtain rfl : i = L.length := by omega
    rw [corbellaw19_LmapOrder_l1]; unfold corbellaw19_LmapOrder_l1s
    rw [lenI_eq, decide_eq_false (Int.lt_irrefl _), cond_false]
    have hset : ∀ q : Int, (∃ u, 0 ≤ u ∧ u < (L.length : Int) ∧ q = (u + by_) % L.length) ↔ (0 ≤ q ∧ q < L.length) := fun q => by
      constructor
      · rintro ⟨u, _, _, rfl⟩
        exact ⟨Int.emod_nonneg _ (by omega), Int.emod_lt_of_pos _ hp⟩
      · rintro ⟨q0, q1⟩
        refine ⟨(q - by_) % L.length, Int.emod_nonneg _ (by omega), Int.emod_lt_of_pos _ hp, ?_⟩
        rw [Int.emod_add_emod, Int.sub_add_cancel, Int.emod_eq_of_lt q0 q1]
    have hB' : InvS L D' s' (fun q => 0 ≤ q ∧ q < (L.length : Int)) := by
      have e : (fun q : Int => ∃ u, 0 ≤ u ∧ u < (L.length : Int) ∧ q = (u + by_) % L.length) = fun q => 0 ≤ q ∧ q < (L.length : Int) := by funext q; exact propext (hset q)
      rw [e] at hB; exact hB
    obtain ⟨f1, f2⟩ := inv_same hA hB'
    exact he _ _ _ _ _ _ f1 f2
  | succ n ih =>
    intro j i D c s D' c' s' h0 h1 hn' hj hA hB
    obtain ⟨j, rfl⟩ : ∃ u, j = u + 1 := ⟨j - 1, by omega⟩
    have hil : i < L.length := by omega
    have hq : wrap64 (i + by_) = i + by_ := w64 (by omega) (by omega)
    generalize hz : (i + by_) % (L.length : Int) = z
    have hz0 : 0 ≤ z := by rw [← hz]; exact Int.emod_nonneg _ (by omega)
    have hz1 : z < L.length := by rw [← hz]; exact Int.emod_lt_of_pos _ hp
    have hm : Int.tmod (wrap64 (i + by_)) (L.length : Int) = z := by rw [hq, tmod_pos (by omega), hz]
    have e1 : wrap64 (wrap64 (7 * i) + 3) = 7 * i + 3 := by rw [w64 (n := 7 * i) (by omega) (by omega), w64 (by omega) (by omega)]
    have e2 : wrap64 (wrap64 (7 * z) + 3) = 7 * z + 3 := by rw [w64 (n := 7 * z) (by omega) (by omega), w64 (by omega) (by omega)]
    have e3 : wrap64 (i + 1) = i + 1 := w64 (by omega) (by omega)
    have hel : ∀ g : Gp, (ents g).length ≤ 10 := fun g => by unfold ents; rw [List.length_map, List.length_take]; omega
    rw [corbellaw19_LmapOrder_l1]; unfold corbellaw19_LmapOrder_l1s
    rw [lenI_eq, decide_eq_true hil, cond_true, e1, gather2, added2]
    dsimp only
    have hg := fun e => gather (R := Bool) e k L i h0 hil 10 0 k (by omega) rfl (by omega)
    simp only [List.take_zero, Int.natCast_zero] at hg
    have hg' : ∀ e, corbellaw19_LmapOrder_i12_4_l0 (R := Bool) e k L i k 0 ([] : List (Int × Bool)) = e (ents (gAt L i)) := hg
    rw [hg', decide_eq_true h0, cond_true, gAt_some h0 hil, optb_some]
    have ha := fun e D c => added (R := Bool) e k (bitop .and .i64 (gAt L i).1 3) i (7 * i + 3) (ents (gAt L i)) [] k D c (by have := hel (gAt L i); simp; omega) (by have := hel (gAt L i); omega)
    simp only [List.nil_append, List.length_nil, Int.natCast_zero] at ha
    have ha' : ∀ e D c, corbellaw19_LmapOrder_i20_6_l0 (R := Bool) e k (bitop .and .i64 (gAt L i).1 3) i (lenI (ents (gAt L i))) (ents (gAt L i)) (7 * i + 3) k 0 D c = e (addE (bitop .and .i64 (gAt L i).1 3) i (7 * i + 3) (ents (gAt L i)) 0 (D, c)).1 (addE (bitop .and .i64 (gAt L i).1 3) i (7 * i + 3) (ents (gAt L i)) 0 (D, c)).2 := ha
    rw [ha', decide_eq_false (show ¬ ((L.length : Int) = 0) by omega), cond_false, hm, e2]
    have hg2 := fun e => gather (R := Bool) e k L z hz0 hz1 10 0 k (by omega) rfl (by omega)
    simp only [List.take_zero, Int.natCast_zero] at hg2
    have hg2' : ∀ e, corbellaw19_LmapOrder_i12_4_l0 (R := Bool) e k L z k 0 ([] : List (Int × Bool)) = e (ents (gAt L z)) := hg2
    rw [hg2', decide_eq_true hz0, cond_true, gAt_some hz0 hz1, optb_some]
    have hb2 := fun e D c => added (R := Bool) e k (bitop .and .i64 (gAt L z).1 3) z (7 * z + 3) (ents (gAt L z)) [] k D c (by have := hel (gAt L z); simp; omega) (by have := hel (gAt L z); omega)
    simp only [List.nil_append, List.length_nil, Int.natCast_zero] at hb2
    have hb2' : ∀ e D c, corbellaw19_LmapOrder_i20_6_l0 (R := Bool) e k (bitop .and .i64 (gAt L z).1 3) z (lenI (ents (gAt L z))) (ents (gAt L z)) (7 * z + 3) k 0 D c = e (addE (bitop .and .i64 (gAt L z).1 3) z (7 * z + 3) (ents (gAt L z)) 0 (D, c)).1 (addE (bitop .and .i64 (gAt L z).1 3) z (7 * z + 3) (ents (gAt L z)) 0 (D, c)).2 := hb2
    rw [hb2', e3]
    refine ih j (i + 1) _ _ _ _ _ _ (by omega) (by omega) (by omega) (by omega) (inv_step h0 (fun q h => h.1) hA (fun q => ?_)) (inv_step hz0 (fun q ⟨u, _, _, h⟩ => by rw [h]; exact Int.emod_nonneg _ (by omega)) hB (fun q => ?_))
    · constructor
      · rintro ⟨a, b⟩
        rcases Int.lt_or_le q i with h | h
        · exact .inl ⟨a, h⟩
        · exact .inr (by omega)
      · rintro (⟨a, b⟩ | rfl)
        · exact ⟨a, by omega⟩
        · exact ⟨h0, by omega⟩
    · constructor
      · rintro ⟨u, a, b, rfl⟩
        rcases Int.lt_or_le u i with h | h
        · exact .inl ⟨u, a, h, rfl⟩
        · right
          obtain rfl : u = i := by omega
          exact hz
      · rintro (⟨u, a, b, rfl⟩ | rfl)
        · exact ⟨u, a, by omega, rfl⟩
        · exact ⟨i, h0, by omega, hz.symm⟩
theorem looks (e1 : Option Bool) (k : Nat) (D D' : Dn) (h : ∀ b, gt D b = gt D' b) : ∀ (n j : Nat) (q : Int), 0 ≤ q → q ≤ 16 → (16 - q).toNat = n → n < j → corbellaw19_LmapOrder_l2 (fun v => some v) e1 k D D' j q = e1 := by
  intro n
  induction n with
  | zero =>
    intro j q h0 h1 hn hj
    obtain ⟨j, rfl⟩ : ∃ u, j = u + 1 := ⟨j - 1, by omega⟩
    rw [corbellaw19_LmapOrder_l2]; unfold corbellaw19_LmapOrder_l2s
    rw [decide_eq_false (by omega), cond_false]
  | succ n ih =>
    intro j q h0 h1 hn hj
    obtain ⟨j, rfl⟩ : ∃ u, j = u + 1 := ⟨j - 1, by omega⟩
    rw [corbellaw19_LmapOrder_l2]; unfold corbellaw19_LmapOrder_l2s
    rw [decide_eq_true (by omega), cond_true]
    have hv : mval (.int .i64) (Ty.zero (.pair (.pair (.int .i64) (.pair (.int .i64) (.int .i64))) (.pair (.int .i64) .bool))) D' q = mval (.int .i64) (Ty.zero (.pair (.pair (.int .i64) (.pair (.int .i64) (.int .i64))) (.pair (.int .i64) .bool))) D q := by
      unfold mval; have := h q; unfold gt at this; rw [this]
    have hh : mhas (.int .i64) D' q = mhas (.int .i64) D q := by unfold mhas; have := h q; unfold gt at this; rw [this]
    rw [hv, hh]
    simp only [decide_true, Bool.and_true, Bool.not_true, cond_false, beq_self_eq_true]
    unfold corbellaw19_LmapOrder_j3 corbellaw19_LmapOrder_k3
    rw [cond_false, w64 (by omega) (by omega)]
    exact ih j (q + 1) (by omega) (by omega) (by omega) (by omega)
theorem main19 (d : Nat) (nl : Bool) (L : List Gp) (by_ : Int) (hby : -9223372036854775808 ≤ by_ ∧ by_ ≤ 9223372036854775807) : corbellaw19_LmapOrder (d + 300) nl L by_ = some true := by
  unfold corbellaw19_LmapOrder
  rw [speaks19, optb_some, Bool.not_true, cond_false, lenI_eq]
  unfold corbellaw19_LmapOrder_j0
  by_cases h1 : (40 : Int) < L.length
  · rw [decide_eq_true h1]; rfl
  · rw [decide_eq_false h1, cond_false]
    by_cases h2 : (L.length : Int) = 0
    · rw [decide_eq_true h2]; rfl
    · rw [decide_eq_false h2, cond_false]
      unfold corbellaw19_LmapOrder_k1
      rw [lenI_eq, decide_eq_false h2, cond_false, cond_false]
      have hm := mod_in2 (x := by_) (c := (L.length : Int)) hby (by omega) (by omega)
      refine both _ true (d + 300) (by omega) L _ (by omega) (by omega) hm (fun D c s D' c' s' hD hs => ?_) L.length (d + 300) 0 [] 0 0 [] 0 0 (by omega) (by omega) (by omega) (by omega) ?_ ?_
      · rw [looks _ _ D D' hD 16 _ 0 (by omega) (by omega) rfl (by omega), hs, decide_eq_true rfl]
      · exact ⟨fun b => .inl ⟨rfl, fun q hq => by omega⟩, .inl ⟨rfl, fun q hq => by omega⟩⟩
      · exact ⟨fun b => .inl ⟨rfl, fun q ⟨u, hq⟩ => by omega⟩, .inl ⟨rfl, fun q ⟨u, hq⟩ => by omega⟩⟩
theorem LmapOrder : LmapOrderPure := by
  intro x0 x1 _ h1
  exact ⟨0 + 300, main19 0 x0.1 x0.2 x1 (wf_i64 h1)⟩
end Go.Proofs.Ytbaikphpohdmoaa.Pure
