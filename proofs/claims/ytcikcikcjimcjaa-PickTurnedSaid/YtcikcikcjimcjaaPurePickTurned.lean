/- PickTurned: the pure statement, over numbers and lists alone; no conditions. -/
import Derived.Test.YtcikcikcjimcjaaStatPickTurned
set_option linter.unusedVariables false
set_option linter.unusedSimpArgs false
namespace Go.Proofs.Ytcikcikcjimcjaa.Pure
open Go Go.RowKit Go.Proofs.Ytcikcikcjimcjaa.Ev
/-! ### whole numbers -/
theorem wf_i64 {n : Int} (h : Ty.wf (.int .i64) n) : -9223372036854775808 ≤ n ∧ n ≤ 9223372036854775807 := by
  have h : (Lit.int .i64 n).wf = true := h
  simpa [Lit.wf, IntKind.min, IntKind.max, IntKind.signed, IntKind.bits] using h
theorem w64 {n : Int} (h0 : -9223372036854775808 ≤ n) (h1 : n ≤ 9223372036854775807) : wrap64 n = n := by unfold wrap64; omega
theorem tdiv_pos {a b : Int} (ha : 0 ≤ a) : Int.tdiv a b = a / b := Int.tdiv_eq_ediv_of_nonneg ha
theorem tmod_pos {a b : Int} (ha : 0 ≤ a) : Int.tmod a b = a % b := Int.tmod_eq_emod_of_nonneg ha
theorem bytesOf_append (a b : List Int) : bytesOf a ++ bytesOf b = bytesOf (a ++ b) := by
  apply ByteArray.ext
  simp [bytesOf]
theorem cond_t {α : Type} {c : Bool} {a b : α} (h : c = true) : (bif c then a else b) = a := by rw [h]; rfl
theorem cond_f {α : Type} {c : Bool} {a b : α} (h : c = false) : (bif c then a else b) = b := by rw [h]; rfl
theorem optb_some {α β : Type} (a : α) (f : α → Option β) : optb (some a) f = f a := rfl
/-! ### zones for the cleaner -/
abbrev Pz := Int × (Int × Bool)
def canB (z : Pz) : Bool := decide (0 < z.1) && !z.2.2
def empB (z : Pz) : Bool := decide (z.1 = 0) && !z.2.2
/-- the numbers of those that are so -/
def sel (e : Pz → Bool) : List Pz → Int → List Int
  | [], _ => []
  | x :: r, i => bif e x then i :: sel e r (i + 1) else sel e r (i + 1)
theorem sel_length (e : Pz → Bool) : ∀ (A : List Pz) (i : Int), (sel e A i).length = A.countP e
  | [], _ => rfl
  | x :: r, i => by
    unfold sel
    cases h : e x with
    | true => rw [cond_true, List.length_cons, sel_length e r, List.countP_cons_of_pos h]
    | false => rw [cond_false, sel_length e r, List.countP_cons_of_neg (by rw [h]; exact Bool.false_ne_true)]
theorem sel_mem (e : Pz → Bool) : ∀ (A : List Pz) (i : Int) (x : Int), x ∈ sel e A i → ∃ (q : Nat) (z : Pz), x = i + q ∧ A[q]? = some z ∧ e z = true
  | [], _, x, h => absurd h List.not_mem_nil
  | y :: r, i, x, h => by
    have tail : x ∈ sel e r (i + 1) → ∃ (q : Nat) (z : Pz), x = i + q ∧ (y :: r)[q]? = some z ∧ e z = true := fun h => by
      obtain ⟨q, z, h1, h2, h3⟩ := sel_mem e r (i + 1) x h
      exact ⟨q + 1, z, by omega, by simpa using h2, h3⟩
    unfold sel at h
    cases hy : e y with
    | true =>
      rw [hy, cond_true] at h
      rcases List.mem_cons.1 h with rfl | h
      · exact ⟨0, y, by omega, rfl, hy⟩
      · exact tail h
    | false => rw [hy, cond_false] at h; exact tail h
theorem sel_has (e : Pz → Bool) : ∀ (A : List Pz) (i : Int) (q : Nat) (z : Pz), A[q]? = some z → e z = true → i + q ∈ sel e A i
  | [], _, q, z, h, _ => by simp at h
  | y :: r, i, 0, z, h, hz => by
    simp at h
    subst h
    unfold sel
    rw [hz, cond_true]
    exact List.mem_cons.2 (.inl (by omega))
  | y :: r, i, q + 1, z, h, hz => by
    have := sel_has e r (i + 1) q z (by simpa using h) hz
    rw [show i + 1 + (q : Int) = i + ((q + 1 : Nat) : Int) by omega] at this
    unfold sel
    cases e y with
    | true => rw [cond_true]; exact List.mem_cons_of_mem _ this
    | false => rw [cond_false]; exact this
abbrev zat (A : List Pz) (q : Int) : Pz := A.getD q.toNat (0, 0, false)
theorem zat_some {A : List Pz} {q : Int} (h0 : 0 ≤ q) (h1 : q < A.length) : A[q.toNat]? = some (zat A q) := by
  have h : q.toNat < A.length := by omega
  unfold zat
  rw [List.getD_eq_getElem?_getD, List.getElem?_eq_getElem h]; rfl
/-- is one to be cleaned ahead of another one? -/
def les (x y : Pz) : Bool := decide (x.2.1 < y.2.1) || (decide (x.2.1 = y.2.1) && decide (y.1 < x.1))
def mfo (A : List Pz) : Int → List Int → Int
  | b, [] => b
  | b, x :: r => mfo A (bif decide (b < 0) || les (zat A x) (zat A b) then x else b) r
theorem drop_cons {α : Type} {A r : List α} {i : Nat} {x : α} (h : A.drop i = x :: r) : A[i]? = some x ∧ A.drop (i + 1) = r ∧ i < A.length := by
  have h1 : A[i]? = some x := by
    have : (A.drop i)[0]? = some x := by rw [h]; rfl
    rw [List.getElem?_drop] at this; simpa using this
  refine ⟨h1, ?_, (List.getElem?_eq_some_iff.1 h1).1⟩
  rw [← List.drop_drop, h]; rfl
theorem victim1_val (k : Nat) (z : Pz) : pick_Victim_1 k z.1 z.2.1 z.2.2 = some (canB z) := by
  unfold pick_Victim_1 canB
  cases decide (0 < z.1) <;> rfl
theorem vnum_loop {R : Type} (e0 : List Int → Option R) (k : Nat) (A : List Pz) (hA : A.length ≤ 1000) : ∀ (r : List Pz) (j : Nat) (i : Nat) (out : List Int), A.drop i = r → i ≤ A.length → r.length < j → out.length ≤ i →
    pick_Victim_i47_1_l0 e0 k A A.length j i out = e0 (out ++ sel canB r i)
  | [], j, i, out, h, hi, hj, ho => by
    obtain ⟨j, rfl⟩ : ∃ u, j = u + 1 := ⟨j - 1, by omega⟩
    have : A.length ≤ i := List.drop_eq_nil_iff.1 h
    rw [pick_Victim_i47_1_l0]; unfold pick_Victim_i47_1_l0s sel
    rw [decide_eq_false (by omega), cond_false, List.append_nil]
  | x :: r, j, i, out, h, hi, hj, ho => by
    rw [List.length_cons] at hj
    obtain ⟨j, rfl⟩ : ∃ u, j = u + 1 := ⟨j - 1, by omega⟩
    obtain ⟨h1, h2, h3⟩ := drop_cons h
    rw [pick_Victim_i47_1_l0]; unfold pick_Victim_i47_1_l0s sel
    rw [decide_eq_true (show (i : Int) < A.length by omega), decide_eq_true (show (0 : Int) ≤ i by omega), cond_true, cond_true, Int.toNat_natCast, h1, optb_some, victim1_val, optb_some]
    unfold pick_Victim_i47_1_j1 pick_Victim_i47_1_j1b
    rw [w64 (n := (i : Int) + 1) (by omega) (by omega)]
    cases canB x with
    | true =>
      rw [cond_true, cond_true, List.length_singleton, decide_eq_true (show out.length + 1 ≤ 1099511627776 by omega), cond_true]
      have := vnum_loop e0 k A hA r j (i + 1) (out ++ [(i : Int)]) h2 (by omega) (by omega) (by rw [List.length_append, List.length_singleton]; omega)
      rw [List.append_assoc] at this
      exact this
    | false => rw [cond_false, cond_false]; exact vnum_loop e0 k A hA r j (i + 1) out h2 (by omega) (by omega) (by omega)
theorem compare_val (k : Nat) (x y : Int) : cmp_Compare k x y = some (if x < y then -1 else if y < x then 1 else 0) := by
  unfold cmp_Compare cmp_isNaN
  rw [optb_some, optb_some, decide_eq_true rfl, decide_eq_true rfl]
  simp only [Bool.not_true, cond_false]
  by_cases h : x < y
  · rw [decide_eq_true h, if_pos h]; rfl
  · rw [decide_eq_false h, if_neg h, cond_false]
    by_cases h2 : y < x
    · rw [decide_eq_true h2, if_pos h2]; rfl
    · rw [decide_eq_false h2, if_neg h2]; rfl
theorem or_val (k : Nat) (hk : 5 ≤ k) (b : Bool) (x y : Int) : cmp_Or k b [x, y] = some (if x ≠ 0 then x else if y ≠ 0 then y else 0) := by
  obtain ⟨j, rfl⟩ : ∃ u, k = u + 3 := ⟨k - 3, by omega⟩
  unfold cmp_Or
  rw [lenI_eq, cmp_Or_l0]; unfold cmp_Or_l0s
  rw [show decide ((0 : Int) < ([x, y] : List Int).length) = true from rfl, show decide ((0 : Int) ≤ 0) = true from rfl, cond_true, cond_true, show ([x, y] : List Int)[(0 : Int).toNat]? = some x from rfl, optb_some]
  by_cases h : x = 0
  · rw [decide_eq_true h, if_neg (fun n => n h)]
    simp only [Bool.not_true, cond_false]
    rw [w64 (n := 0 + 1) (by omega) (by omega), cmp_Or_l0]; unfold cmp_Or_l0s
    rw [show decide ((0 + 1 : Int) < ([x, y] : List Int).length) = true from rfl, show decide ((0 : Int) ≤ 0 + 1) = true from rfl, cond_true, cond_true, show ([x, y] : List Int)[(0 + 1 : Int).toNat]? = some y from rfl, optb_some]
    by_cases h2 : y = 0
    · rw [decide_eq_true h2, if_neg (fun n => n h2)]
      simp only [Bool.not_true, cond_false]
      rw [w64 (n := 0 + 1 + 1) (by omega) (by omega), cmp_Or_l0]; unfold cmp_Or_l0s
      rw [show decide ((0 + 1 + 1 : Int) < ([x, y] : List Int).length) = false from rfl, cond_false]
    · rw [decide_eq_false h2, if_pos h2]; rfl
  · rw [decide_eq_false h, if_pos h]; rfl
theorem cmp_val {R : Type} (e0 : Int → Option R) (k : Nat) (hk : 5 ≤ k) (A : List Pz) {a b : Int} (a0 : 0 ≤ a) (a1 : a < A.length) (b0 : 0 ≤ b) (b1 : b < A.length) :
    ∃ v, pick_Victim_i50_2_j0 e0 k a b A = e0 v ∧ decide (v < 0) = les (zat A a) (zat A b) := by
  unfold pick_Victim_i50_2_j0
  rw [decide_eq_true a0, decide_eq_true b0, zat_some a0 a1, zat_some b0 b1]
  simp only [cond_true, optb_some]
  rw [compare_val, optb_some, compare_val, optb_some, or_val k hk, optb_some]
  refine ⟨_, rfl, ?_⟩
  unfold les
  generalize (zat A a).2.1 = p
  generalize (zat A b).2.1 = q
  generalize (zat A a).1 = u
  generalize (zat A b).1 = v
  by_cases h1 : p < q
  · rw [if_pos h1, if_pos (by decide), decide_eq_true h1]; rfl
  · rw [if_neg h1, decide_eq_false h1]
    by_cases h2 : q < p
    · rw [if_pos h2, if_pos (by decide), decide_eq_false (show ¬ p = q by omega)]; rfl
    · rw [if_neg h2, if_neg (by decide), decide_eq_true (show p = q by omega)]
      by_cases h3 : v < u
      · rw [if_pos h3, if_pos (by decide), decide_eq_true h3]; rfl
      · rw [if_neg h3, decide_eq_false h3]
        by_cases h4 : u < v
        · rw [if_pos h4, if_pos (by decide)]; rfl
        · rw [if_neg h4, if_neg (by decide)]; rfl
theorem min_loop {R : Type} (e0 : Int → Option R) (k : Nat) (hk : 5 ≤ k) (A : List Pz) (X : List Int) (hX : X.length ≤ 1000) (hin : ∀ x ∈ X, 0 ≤ x ∧ x < A.length) : ∀ (r : List Int) (j i : Nat) (m : Int), X.drop i = r → i ≤ X.length → r.length < j → 0 ≤ m → m < A.length →
    pick_Victim_i49_2_l0 e0 k A X j m i = e0 (mfo A m r)
  | [], j, i, m, h, hi, hj, m0, m1 => by
    obtain ⟨j, rfl⟩ : ∃ u, j = u + 1 := ⟨j - 1, by omega⟩
    have : X.length ≤ i := List.drop_eq_nil_iff.1 h
    rw [pick_Victim_i49_2_l0]; unfold pick_Victim_i49_2_l0s
    rw [lenI_eq, decide_eq_false (by omega), cond_false]; rfl
  | x :: r, j, i, m, h, hi, hj, m0, m1 => by
    rw [List.length_cons] at hj
    obtain ⟨j, rfl⟩ : ∃ u, j = u + 1 := ⟨j - 1, by omega⟩
    obtain ⟨h1, h2, h3⟩ := drop_cons h
    have hx := hin x (List.mem_of_getElem? h1)
    rw [pick_Victim_i49_2_l0]; unfold pick_Victim_i49_2_l0s pick_Victim_i49_2_j1
    rw [lenI_eq, decide_eq_true (show (i : Int) < X.length by omega), decide_eq_true (show (0 : Int) ≤ i by omega), Int.toNat_natCast, h1, w64 (n := (i : Int) + 1) (by omega) (by omega)]
    simp only [Bool.and_self, cond_true, optb_some]
    obtain ⟨v, e1, e2⟩ := cmp_val (R := R) (fun v_1064 => bif decide (v_1064 < 0) then pick_Victim_i49_2_l0 e0 k A X j x ((i : Int) + 1) else pick_Victim_i49_2_l0 e0 k A X j m ((i : Int) + 1)) k hk A hx.1 hx.2 m0 m1
    rw [e1, e2]
    show _ = e0 (mfo A (bif decide (m < 0) || les (zat A x) (zat A m) then x else m) r)
    rw [decide_eq_false (show ¬ m < 0 by omega), Bool.false_or]
    cases les (zat A x) (zat A m) with
    | true => exact min_loop e0 k hk A X hX hin r j (i + 1) x h2 (by omega) (by omega) hx.1 hx.2
    | false => exact min_loop e0 k hk A X hX hin r j (i + 1) m h2 (by omega) (by omega) m0 m1
theorem sel_in (e : Pz → Bool) (A : List Pz) : ∀ x ∈ sel e A 0, 0 ≤ x ∧ x < A.length := fun x hx => by
  obtain ⟨q, z, h1, h2, _⟩ := sel_mem e A 0 x hx
  have := (List.getElem?_eq_some_iff.1 h2).1
  omega
noncomputable def vic (A : List Pz) : Int := mfo A (-1) (sel canB A 0)
theorem victim_val (k : Nat) (hk : 2000 ≤ k) (b : Bool) (A : List Pz) (hA : A.length ≤ 1000) : pick_Victim k b A = some (vic A) := by
  unfold pick_Victim vic
  rw [lenI_eq]
  have := vnum_loop (R := Int) (fun out_1033 =>
    bif (decide ((lenI out_1033) = (0 : Int))) then
      some (-1 : Int)
    else bif (decide ((lenI out_1033) < (1 : Int))) then
      none
    else bif (decide ((0 : Int) < (lenI out_1033))) then
      optb (out_1033[(0 : Int).toNat]?) fun x_1035 =>
      pick_Victim_i49_2_l0 (fun m_1088 =>
        some m_1088) k A out_1033 k x_1035 (1 : Int)
    else none) k A hA A k 0 [] rfl (Nat.zero_le _) (by omega) (Nat.le_refl _)
  rw [List.nil_append] at this
  refine this.trans ?_
  have e0 : (((0 : Nat) : Int)) = 0 := rfl
  rw [e0]
  have hin := sel_in canB A
  have hl : (sel canB A 0).length ≤ A.length := by rw [sel_length]; exact List.countP_le_length
  generalize sel canB A 0 = L at *
  rw [lenI_eq]
  cases L with
  | nil => rfl
  | cons x r =>
    have hx := hin x (by simp)
    rw [List.length_cons] at hl
    rw [List.length_cons, decide_eq_false (by omega), decide_eq_false (by omega), decide_eq_true (by omega), cond_false, cond_false, cond_true, show (x :: r)[(0 : Int).toNat]? = some x from rfl, optb_some]
    exact min_loop (fun m => some m) k (by omega) A (x :: r) (by rw [List.length_cons]; omega) hin r k 1 x rfl (by rw [List.length_cons]; omega) (by omega) hx.1 hx.2
/-! what is chosen -/
theorem mfo_spec (A : List Pz) : ∀ (L : List Int) (b : Int), 0 ≤ b → (∀ x ∈ L, 0 ≤ x) → (mfo A b L = b ∨ mfo A b L ∈ L) ∧ 0 ≤ mfo A b L ∧ ∀ x, x = b ∨ x ∈ L → les (zat A x) (zat A (mfo A b L)) = false
  | [], b, b0, _ => ⟨.inl rfl, b0, fun x hx => by
    rcases hx with rfl | hx
    · show les _ _ = false
      unfold les mfo
      rw [decide_eq_false (Int.lt_irrefl _), decide_eq_false (Int.lt_irrefl (zat A x).1), Bool.and_false]; rfl
    · exact absurd hx List.not_mem_nil⟩
  | y :: r, b, b0, hL => by
    have hy := hL y (by simp)
    have hr : ∀ x ∈ r, 0 ≤ x := fun x hx => hL x (List.mem_cons_of_mem _ hx)
    have tr : ∀ u v w : Pz, les u v = false → les v w = false → les u w = false := fun u v w h1 h2 => by
      unfold les at *
      simp only [Bool.or_eq_false_iff, Bool.and_eq_false_iff, decide_eq_false_iff_not] at *
      omega
    have asy : ∀ u v : Pz, les u v = true → les v u = false := fun u v h1 => by
      unfold les at *
      simp only [Bool.or_eq_true, Bool.and_eq_true, decide_eq_true_eq, Bool.or_eq_false_iff, Bool.and_eq_false_iff, decide_eq_false_iff_not] at *
      omega
    show (mfo A (bif decide (b < 0) || les (zat A y) (zat A b) then y else b) r = b ∨ _) ∧ _
    have e : mfo A b (y :: r) = mfo A (bif decide (b < 0) || les (zat A y) (zat A b) then y else b) r := rfl
    rw [e, decide_eq_false (show ¬ b < 0 by omega), Bool.false_or]
    cases hc : les (zat A y) (zat A b) with
    | true =>
      rw [cond_true]
      obtain ⟨h1, h2, h3⟩ := mfo_spec A r y hy hr
      refine ⟨.inr (h1.elim (fun h => by rw [h]; simp) (fun h => List.mem_cons_of_mem _ h)), h2, fun x hx => ?_⟩
      rcases hx with rfl | hx
      · exact tr _ _ _ (asy _ _ hc) (h3 y (.inl rfl))
      · rcases List.mem_cons.1 hx with rfl | hx
        · exact h3 x (.inl rfl)
        · exact h3 x (.inr hx)
    | false =>
      rw [cond_false]
      obtain ⟨h1, h2, h3⟩ := mfo_spec A r b b0 hr
      refine ⟨h1.imp_right (fun h => List.mem_cons_of_mem _ h), h2, fun x hx => ?_⟩
      rcases hx with rfl | hx
      · exact h3 x (.inl rfl)
      · rcases List.mem_cons.1 hx with rfl | hx
        · exact tr _ _ _ hc (h3 b (.inl rfl))
        · exact h3 x (.inr hx)
/-- the victim: none can be cleaned, or one that can, and none that can is better -/
theorem vic_spec (A : List Pz) : (vic A = -1 ∧ ∀ z ∈ A, canB z = false) ∨ (0 ≤ vic A ∧ vic A < A.length ∧ canB (zat A (vic A)) = true ∧ ∀ z ∈ A, canB z = true → les z (zat A (vic A)) = false) := by
  have hin := sel_in canB A
  have hcan : ∀ x ∈ sel canB A 0, canB (zat A x) = true := fun x hx => by
    obtain ⟨q, z, h1, h2, h3⟩ := sel_mem canB A 0 x hx
    have : x.toNat = q := by omega
    unfold zat
    rw [this, List.getD_eq_getElem?_getD, h2]; exact h3
  have hhas : ∀ z ∈ A, canB z = true → ∃ x ∈ sel canB A 0, zat A x = z := fun z hz hc => by
    obtain ⟨q, hq⟩ := List.mem_iff_getElem?.1 hz
    refine ⟨_, sel_has canB A 0 q z hq hc, ?_⟩
    unfold zat
    rw [show ((0 : Int) + q).toNat = q by omega, List.getD_eq_getElem?_getD, hq]; rfl
  unfold vic
  cases hs : sel canB A 0 with
  | nil =>
    refine .inl ⟨rfl, fun z hz => ?_⟩
    cases hc : canB z with
    | false => rfl
    | true =>
      obtain ⟨x, hx, _⟩ := hhas z hz hc
      rw [hs] at hx
      exact absurd hx List.not_mem_nil
  | cons y r =>
    have e : mfo A (-1) (y :: r) = mfo A y r := by
      show mfo A (bif decide ((-1 : Int) < 0) || _ then y else -1) r = _
      rw [decide_eq_true (by decide), Bool.true_or, cond_true]
    rw [e]
    rw [hs] at hin hcan hhas
    obtain ⟨h1, h2, h3⟩ := mfo_spec A r y (hin y (by simp)).1 (fun x hx => (hin x (List.mem_cons_of_mem _ hx)).1)
    have hm : mfo A y r ∈ y :: r := h1.elim (fun h => by rw [h]; simp) (fun h => List.mem_cons_of_mem _ h)
    refine .inr ⟨h2, (hin _ hm).2, hcan _ hm, fun z hz hc => ?_⟩
    obtain ⟨x, hx, hxz⟩ := hhas z hz hc
    rw [← hxz]
    rcases List.mem_cons.1 hx with rfl | hx
    · exact h3 _ (.inl rfl)
    · exact h3 _ (.inr hx)
/-! the law's zones -/
theorem zones_loop {R : Type} (e0 : List Pz → List Pz → Option R) (k : Nat) (L : List Pz) : ∀ (u j : Nat) (i : Nat) (a b : List Pz), i ≤ 200 → 200 - i = u → u < j → i ≤ L.length → a = L.take i → b = L.take i →
    corbellaw20_zones_l0 e0 k L j i a b = e0 (L.take 200) (L.take 200) := by
  intro u
  induction u with
  | zero =>
    intro j i a b hi hu hj hl ha hb
    obtain ⟨j, rfl⟩ : ∃ u, j = u + 1 := ⟨j - 1, by omega⟩
    have : i = 200 := by omega
    subst this
    rw [corbellaw20_zones_l0]; unfold corbellaw20_zones_l0s
    rw [show decide (((200 : Nat) : Int) < 200) = false from rfl, cond_false, ha, hb]
    cases decide (((200 : Nat) : Int) < lenI L) <;> rfl
  | succ u ih =>
    intro j i a b hi hu hj hl ha hb
    obtain ⟨j, rfl⟩ : ∃ u, j = u + 1 := ⟨j - 1, by omega⟩
    rw [corbellaw20_zones_l0]; unfold corbellaw20_zones_l0s
    rw [lenI_eq]
    by_cases hlt : i < L.length
    · have hi' : L[i]? = some L[i] := List.getElem?_eq_getElem hlt
      have hal : a.length = i := by rw [ha, List.length_take]; omega
      have hbl : b.length = i := by rw [hb, List.length_take]; omega
      rw [decide_eq_true (show (i : Int) < L.length by omega), decide_eq_true (show (i : Int) < 200 by omega), decide_eq_true (show (0 : Int) ≤ i by omega), Int.toNat_natCast, hi']
      simp only [cond_true, optb_some]
      rw [List.length_singleton, decide_eq_true (show a.length + 1 ≤ 1099511627776 by omega), cond_true, decide_eq_true (show b.length + 1 ≤ 1099511627776 by omega), cond_true, w64 (n := (i : Int) + 1) (by omega) (by omega)]
      exact ih j (i + 1) _ _ (by omega) (by omega) (by omega) (by omega) (by rw [ha, List.take_add_one, hi']; rfl) (by rw [hb, List.take_add_one, hi']; rfl)
    · have : i = L.length := by omega
      rw [decide_eq_false (by omega), cond_false, ha, hb, List.take_of_length_le (by omega), List.take_of_length_le (by omega)]
theorem zones_val (k : Nat) (hk : 2000 ≤ k) (b : Bool) (L : List Pz) : corbellaw20_zones k b L = some ((true, L.take 200), (true, L.take 200)) := by
  unfold corbellaw20_zones
  exact zones_loop (fun a b => some ((true, a), (true, b))) k L 200 k 0 [] [] (by decide) rfl (by omega) (Nat.zero_le _) rfl rfl
theorem speaks20 (d : Nat) : corbellaw20_speaks (d + 300) = some true := by kernel_rfl
theorem empty1_val (k : Nat) (z : Pz) : pick_Empty_1 k z.1 z.2.1 z.2.2 = some (empB z) := by
  unfold pick_Empty_1 empB
  cases decide (z.1 = 0) <;> rfl
theorem enum_loop {R : Type} (e0 : List Int → Option R) (k : Nat) (A : List Pz) (hA : A.length ≤ 1000) : ∀ (r : List Pz) (j : Nat) (i : Nat) (out : List Int), A.drop i = r → i ≤ A.length → r.length < j → out.length ≤ i →
    pick_Empty_i47_0_l0 e0 k A A.length j i out = e0 (out ++ sel empB r i)
  | [], j, i, out, h, hi, hj, ho => by
    obtain ⟨j, rfl⟩ : ∃ u, j = u + 1 := ⟨j - 1, by omega⟩
    have : A.length ≤ i := List.drop_eq_nil_iff.1 h
    rw [pick_Empty_i47_0_l0]; unfold pick_Empty_i47_0_l0s sel
    rw [decide_eq_false (by omega), cond_false, List.append_nil]
  | x :: r, j, i, out, h, hi, hj, ho => by
    rw [List.length_cons] at hj
    obtain ⟨j, rfl⟩ : ∃ u, j = u + 1 := ⟨j - 1, by omega⟩
    obtain ⟨h1, h2, h3⟩ := drop_cons h
    rw [pick_Empty_i47_0_l0]; unfold pick_Empty_i47_0_l0s sel
    rw [decide_eq_true (show (i : Int) < A.length by omega), decide_eq_true (show (0 : Int) ≤ i by omega), cond_true, cond_true, Int.toNat_natCast, h1, optb_some, empty1_val, optb_some]
    unfold pick_Empty_i47_0_j1 pick_Empty_i47_0_j1b
    rw [w64 (n := (i : Int) + 1) (by omega) (by omega)]
    cases empB x with
    | true =>
      rw [cond_true, cond_true, List.length_singleton, decide_eq_true (show out.length + 1 ≤ 1099511627776 by omega), cond_true]
      have := enum_loop e0 k A hA r j (i + 1) (out ++ [(i : Int)]) h2 (by omega) (by omega) (by rw [List.length_append, List.length_singleton]; omega)
      rw [List.append_assoc] at this
      exact this
    | false => rw [cond_false, cond_false]; exact enum_loop e0 k A hA r j (i + 1) out h2 (by omega) (by omega) (by omega)
theorem empty_val (k : Nat) (hk : 2000 ≤ k) (b : Bool) (A : List Pz) (hA : A.length ≤ 1000) : pick_Empty k b A = some ((sel empB A 0).headD (-1), ((sel empB A 0).length : Int)) := by
  unfold pick_Empty
  rw [lenI_eq]
  have := enum_loop (R := Int × Int) (fun out_1303 =>
    bif (decide ((lenI out_1303) = (0 : Int))) then
      some ((-1 : Int), (0 : Int))
    else bif (decide ((0 : Int) < (lenI out_1303))) then
      optb (out_1303[(0 : Int).toNat]?) fun x_1304 =>
      some (x_1304, (lenI out_1303))
    else none) k A hA A k 0 [] rfl (Nat.zero_le _) (by omega) (Nat.le_refl _)
  rw [List.nil_append] at this
  refine this.trans ?_
  show (bif _ then _ else _) = some (List.headD (sel empB A 0) (-1), _)
  have e0 : (((0 : Nat) : Int)) = 0 := rfl
  rw [e0]
  generalize sel empB A 0 = L
  rw [lenI_eq]
  cases L with
  | nil => rfl
  | cons x r =>
    rw [List.length_cons, decide_eq_false (by omega), decide_eq_true (by omega)]; rfl
theorem turned_j1 (k : Nat) (A B : List Pz) (hmem : ∀ z, z ∈ A ↔ z ∈ B) (n : Int) : corbellaw20_PickTurned_j1 (fun v => some v) k (vic A) (vic B) n n A B = some true := by
  unfold corbellaw20_PickTurned_j1
  rw [decide_eq_true rfl, cond_true]
  rcases vic_spec A with ⟨a1, a2⟩ | ⟨a1, a2, a3, a4⟩
  · rcases vic_spec B with ⟨b1, b2⟩ | ⟨b1, b2, b3, b4⟩
    · rw [a1, b1]; rfl
    · have hm : zat B (vic B) ∈ B := List.mem_of_getElem? (zat_some b1 b2)
      have := a2 _ ((hmem _).2 hm)
      rw [this] at b3; cases b3
  · have hA : zat A (vic A) ∈ A := List.mem_of_getElem? (zat_some a1 a2)
    rcases vic_spec B with ⟨b1, b2⟩ | ⟨b1, b2, b3, b4⟩
    · have := b2 _ ((hmem _).1 hA)
      rw [this] at a3; cases a3
    · have hB : zat B (vic B) ∈ B := List.mem_of_getElem? (zat_some b1 b2)
      have h1 := a4 _ ((hmem _).2 hB) b3
      have h2 := b4 _ ((hmem _).1 hA) a3
      rw [decide_eq_false (show ¬ vic A < 0 by omega), decide_eq_false (show ¬ vic B < 0 by omega), lenI_eq, lenI_eq, decide_eq_true a1, decide_eq_true a2, decide_eq_true b1, decide_eq_true b2, zat_some a1 a2, zat_some b1 b2]
      simp only [Bool.and_self, cond_true, cond_false, optb_some, beq_self_eq_true]
      unfold les at h1 h2
      unfold canB at a3 b3
      simp only [Bool.or_eq_false_iff, Bool.and_eq_false_iff, decide_eq_false_iff_not] at h1 h2
      rw [Bool.and_eq_true] at a3 b3
      have e1 : (zat A (vic A)).1 = (zat B (vic B)).1 := by omega
      have e2 : (zat A (vic A)).2.1 = (zat B (vic B)).2.1 := by omega
      have e3 : (zat A (vic A)).2.2 = (zat B (vic B)).2.2 := by
        have x : (zat A (vic A)).2.2 = false := by simpa using a3.2
        have y : (zat B (vic B)).2.2 = false := by simpa using b3.2
        rw [x, y]
      rw [e1, e2, e3, decide_eq_true rfl, decide_eq_true rfl, beq_self_eq_true]; rfl
theorem turned_main (b : Bool) (L : List Pz) (by_ : Int) : corbellaw20_PickTurned (9700 + 300) b L by_ = some true := by
  unfold corbellaw20_PickTurned
  rw [speaks20, optb_some]
  generalize hk : 9700 + 300 = k
  have hA : (L.take 200).length ≤ 200 := by rw [List.length_take]; omega
  simp only [Bool.not_true, cond_false]
  rw [zones_val k (by omega), optb_some]
  simp only
  generalize L.take 200 = A at *
  rw [lenI_eq]
  by_cases h0 : A.length = 0
  · have : A = [] := List.eq_nil_of_length_eq_zero h0
    subst this
    rw [empty_val k (by omega) _ _ (by simp), optb_some, victim_val k (by omega) _ _ (by simp), optb_some]
    rfl
  · rw [decide_eq_false (show ¬ (A.length : Int) = 0 by omega)]
    simp only [cond_false]
    have m0 := Int.lt_tmod_of_pos by_ (show 0 < (A.length : Int) by omega)
    have m1 := Int.tmod_lt_of_pos by_ (show 0 < (A.length : Int) by omega)
    rw [w64 (n := Int.tmod by_ A.length + A.length) (by omega) (by omega), tmod_pos (a := Int.tmod by_ A.length + A.length) (by omega)]
    have t0 := Int.emod_nonneg (Int.tmod by_ A.length + A.length) (show (A.length : Int) ≠ 0 by omega)
    have t1 := Int.emod_lt_of_pos (Int.tmod by_ A.length + A.length) (show 0 < (A.length : Int) by omega)
    generalize (Int.tmod by_ A.length + A.length) % (A.length : Int) = t at *
    rw [decide_eq_true t0, decide_eq_true (show t ≤ (A.length : Int) by omega), decide_eq_true (show (0 : Int) + A.length ≤ A.length by omega), decide_eq_true (show (0 : Int) + t ≤ A.length by omega)]
    simp only [Bool.and_self, cond_true]
    rw [show (0 : Int) + t = t by omega, show t - 0 = t by omega, show (0 : Int).toNat = 0 from rfl, List.drop_zero, List.nil_append]
    have e1 : List.take ((A.length : Int) - t).toNat (List.drop t.toNat A) = List.drop t.toNat A := List.take_of_length_le (by rw [List.length_drop]; omega)
    rw [e1]
    have l1 : (List.drop t.toNat A).length ≤ 200 := by rw [List.length_drop]; omega
    have l2 : (List.take t.toNat A).length ≤ 200 := by rw [List.length_take]; omega
    rw [decide_eq_true (by rw [List.length_nil]; omega), decide_eq_true (by omega), cond_true, cond_true]
    have hB : (List.drop t.toNat A ++ List.take t.toNat A).length ≤ 400 := by rw [List.length_append]; omega
    have hcnt : (sel empB A 0).length = (sel empB (List.drop t.toNat A ++ List.take t.toNat A) 0).length := by
      rw [sel_length, sel_length, List.countP_append, Nat.add_comm, ← List.countP_append, List.take_append_drop]
    have hmem : ∀ z, z ∈ A ↔ z ∈ List.drop t.toNat A ++ List.take t.toNat A := fun z => by
      rw [List.mem_append, Or.comm, ← List.mem_append, List.take_append_drop]
    unfold corbellaw20_PickTurned_j0
    rw [victim_val k (by omega) _ _ (by omega), optb_some, victim_val k (by omega) _ _ (by omega), optb_some, empty_val k (by omega) _ _ (by omega), optb_some, empty_val k (by omega) _ _ (by omega), optb_some]
    simp only
    rw [← hcnt]
    exact turned_j1 k A _ hmem _
theorem PickTurned : PickTurnedPure := fun x0 x1 _ _ => ⟨9700 + 300, turned_main _ _ _⟩
end Go.Proofs.Ytcikcikcjimcjaa.Pure
