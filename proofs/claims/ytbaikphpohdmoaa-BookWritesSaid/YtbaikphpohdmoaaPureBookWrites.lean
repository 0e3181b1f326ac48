/- BookWrites: the pure statement, over numbers and lists alone; no conditions. -/
import Derived.Test.YtbaikphpohdmoaaStatBookWrites
set_option linter.unusedVariables false
set_option linter.unusedSimpArgs false
namespace Go.Proofs.Ytbaikphpohdmoaa.Pure
open Go Go.RowKit Go.Proofs.Ytbaikphpohdmoaa.Ev
/-! ### whole numbers -/
theorem wf_i64 {n : Int} (h : Ty.wf (.int .i64) n) : -9223372036854775808 ≤ n ∧ n ≤ 9223372036854775807 := by
  have h : (Lit.int .i64 n).wf = true := h
  simpa [Lit.wf, IntKind.min, IntKind.max, IntKind.signed, IntKind.bits] using h
theorem w64 {n : Int} (h0 : -9223372036854775808 ≤ n) (h1 : n ≤ 9223372036854775807) : wrap64 n = n := by unfold wrap64; omega
theorem tdiv_pos {a b : Int} (ha : 0 ≤ a) : Int.tdiv a b = a / b := Int.tdiv_eq_ediv_of_nonneg ha
theorem tmod_pos {a b : Int} (ha : 0 ≤ a) : Int.tmod a b = a % b := Int.tmod_eq_emod_of_nonneg ha
theorem bytesOf_append (a b : List Int) : bytesOf a ++ bytesOf b = bytesOf (a ++ b) := by
  apply ByteArray.ext
  simp [bytesOf]
theorem cond_t {α : Type} {c : Bool} {a b : α} (h : c = true) : (bif c then a else b) = a := by rw [h]; rfl
theorem cond_f {α : Type} {c : Bool} {a b : α} (h : c = false) : (bif c then a else b) = b := by rw [h]; rfl
theorem optb_some {α β : Type} (a : α) (f : α → Option β) : optb (some a) f = f a := rfl
theorem and_mask (x : Int) (i : Nat) (hi : i ≤ 62) : bitop .and .i64 x (2 ^ i - 1) = x % 2 ^ i := by
  have h2 : (2 : Nat) ^ i ≤ 2 ^ 62 := Nat.pow_le_pow_right (by decide) hi
  have h62 : (2 : Nat) ^ 62 = 4611686018427387904 := by decide
  have h64 : (2 : Nat) ^ 64 = 18446744073709551616 := by decide
  have hp : 0 < 2 ^ i := Nat.two_pow_pos i
  have hc : ((2 : Int) ^ i - 1) = ((2 ^ i - 1 : Nat) : Int) := by rw [Int.natCast_sub hp]; simp
  have hd : (2 ^ i : Nat) ∣ 2 ^ 64 := Nat.pow_dvd_pow 2 (by omega)
  have hb : IntKind.i64.bits = 64 := rfl
  have key : ((BitVec.ofInt 64 x &&& BitVec.ofInt 64 (2 ^ i - 1)).toNat : Int) = x % 2 ^ i := by
    rw [hc, BitVec.ofInt_natCast, BitVec.toNat_and, BitVec.toNat_ofNat, Nat.mod_eq_of_lt (show 2 ^ i - 1 < 2 ^ 64 by omega), Nat.and_two_pow_sub_one_eq_mod, BitVec.toNat_ofInt,
      Int.natCast_emod, Int.toNat_of_nonneg (Int.emod_nonneg _ (by decide)), Int.emod_emod_of_dvd]
    · simp
    · exact Int.natCast_dvd_natCast.2 hd
  have hlt : ((BitVec.ofInt 64 x &&& BitVec.ofInt 64 (2 ^ i - 1)).toNat : Int) < 4611686018427387904 := by
    rw [key]
    have : x % ((2 ^ i : Nat) : Int) < ((2 ^ i : Nat) : Int) := Int.emod_lt_of_pos _ (by omega)
    have e : ((2 ^ i : Nat) : Int) = (2 : Int) ^ i := by simp
    rw [e] at this
    have : (2 : Int) ^ i ≤ 4611686018427387904 := by rw [← e]; omega
    omega
  show IntKind.i64.wrap ((BitVec.ofInt 64 x &&& BitVec.ofInt 64 (2 ^ i - 1)).toNat : Int) = x % 2 ^ i
  rw [IntKind.wrap_i64]
  omega
/-! ### maps as lists of entries -/
theorem eqb_iff : ∀ (t : Ty) (x y : t.den), t.noSl = true → (t.eqb x y = true ↔ x = y) := eqb_eq
theorem mget_put {α : Type} {K : Ty} (hn : K.noSl = true) (k k' : K.den) (v : α) (c : Nat) : ∀ D : List (Nat × K.den × α), mget K (mput K k v c D) k' = bif K.eqb k' k then some v else mget K D k'
  | [] => by simp only [mput, mget]
  | d :: r => by
    simp only [mput]
    cases h : K.eqb k d.2.1 with
    | true =>
      rw [cond_true]
      simp only [mget]
      have e := (eqb_iff K _ _ hn).1 h
      rw [← e]
      cases K.eqb k' k <;> rfl
    | false =>
      rw [cond_false]
      simp only [mget]
      cases h2 : K.eqb k' d.2.1 with
      | true =>
        have e := (eqb_iff K _ _ hn).1 h2
        have : K.eqb k' k = false := by
          cases h3 : K.eqb k' k with
          | false => rfl
          | true =>
            have e3 := (eqb_iff K _ _ hn).1 h3
            rw [← e3, e] at h
            rw [(eqb_iff K _ _ hn).2 rfl] at h; cases h
        rw [this]; rfl
      | false => rw [cond_false]; exact mget_put hn k k' v c r
theorem mget_puti {α : Type} (k k' : Int) (v : α) (c : Nat) (D : List (Nat × Int × α)) : mget (.int .i64) (mput (.int .i64) k v c D) k' = if k' = k then some v else mget (.int .i64) D k' := by
  rw [mget_put (K := .int .i64) rfl]
  show (bif decide (k' = k) then _ else _) = _
  by_cases h : k' = k
  · rw [decide_eq_true h, if_pos h]; rfl
  · rw [decide_eq_false h, if_neg h]; rfl
/-! ### the shape of an array of drives -/
def GG (a0 a1 a2 a3 a4 : Int) : Prop := 3 ≤ a0 ∧ a0 ≤ 16 ∧ 5 ≤ a1 ∧ a1 ≤ 64 ∧ 4 ≤ a2 ∧ a2 ≤ 256 ∧ 1 ≤ a3 ∧ a3 ≤ a4 ∧ a4 ≤ a1
instance (a0 a1 a2 a3 a4 : Int) : Decidable (GG a0 a1 a2 a3 a4) := by unfold GG; infer_instance
theorem within_val (k : Nat) (n l h : Int) : geom_within k n l h = some (decide (l ≤ n ∧ n ≤ h)) := by
  unfold geom_within
  by_cases a : l ≤ n <;> simp [a]
theorem good_val (k : Nat) (a0 a1 a2 a3 a4 : Int) : geom_Good k a0 a1 a2 a3 a4 = some (decide (GG a0 a1 a2 a3 a4)) := by
  unfold geom_Good
  simp only [within_val, optb]
  by_cases h1 : 3 ≤ a0 ∧ a0 ≤ 16 <;> by_cases h2 : 5 ≤ a1 ∧ a1 ≤ 64 <;> by_cases h3 : 4 ≤ a2 ∧ a2 ≤ 256 <;> by_cases h4 : 1 ≤ a3 ∧ a3 ≤ a4 <;> simp only [h1, h2, h3, h4, decide_true, decide_false, cond_true, cond_false, Option.some.injEq, decide_eq_decide, and_self] <;> first | (unfold GG; omega) | (symm; rw [decide_eq_false_iff_not]; unfold GG; omega)
theorem refgood_val (k : Nat) (a0 a1 a2 a3 a4 : Int) : corbelref04_Good k a0 a1 a2 a3 a4 = some (decide (GG a0 a1 a2 a3 a4)) := by
  unfold corbelref04_Good corbelref04_Good_j0 corbelref04_Good_k0 corbelref04_Good_k1
  by_cases h1 : a0 < 3 <;> by_cases h2 : 16 < a0 <;> by_cases h3 : a1 < 5 <;> by_cases h4 : 64 < a1 <;> by_cases h5 : a2 < 4 <;> by_cases h6 : 256 < a2 <;> by_cases h7 : 0 < a3 <;> by_cases h8 : a3 ≤ a4 <;>
    simp only [h1, h2, h3, h4, h5, h6, h7, h8, decide_true, decide_false, cond_true, cond_false, Option.some.injEq, decide_eq_decide] <;> first | (unfold GG; omega) | (symm; rw [decide_eq_false_iff_not]; unfold GG; omega)
section
variable {a0 a1 a2 a3 a4 : Int}
theorem zones_yes (k : Nat) (h : GG a0 a1 a2 a3 a4) : geom_Zones k a0 a1 a2 a3 a4 = some (a1 - 3) := by
  unfold geom_Zones
  rw [good_val, decide_eq_true h]
  obtain ⟨_, _, h1, h2, _⟩ := h
  show some _ = _
  rw [w64 (n := a1 - 2) (by omega) (by omega), w64 (by omega) (by omega)]
  congr 1; omega
theorem zones_no (k : Nat) (h : ¬ GG a0 a1 a2 a3 a4) : geom_Zones k a0 a1 a2 a3 a4 = some 0 := by
  unfold geom_Zones
  rw [good_val, decide_eq_false h]; rfl
end
theorem mod_in2 {x c : Int} (hx : -9223372036854775808 ≤ x ∧ x ≤ 9223372036854775807) (c0 : 0 < c) (c1 : c ≤ 1000000) : 0 ≤ Int.tmod (wrap64 (Int.tmod x c + c)) c ∧ Int.tmod (wrap64 (Int.tmod x c + c)) c < c := by
  have m0 := Int.lt_tmod_of_pos x c0
  have m1 := Int.tmod_lt_of_pos x c0
  rw [w64 (n := Int.tmod x c + c) (by omega) (by omega), tmod_pos (by omega)]
  exact ⟨Int.emod_nonneg _ (by omega), Int.emod_lt_of_pos _ c0⟩
/-! ### lists of records, as both sides read them -/
abbrev Rec := Int × (Int × (Int × (Int × (Int × (Int × ByteArray)))))
abbrev Lst := Bool × List Rec
def Fine (x : Rec) : Prop := (3 ≤ x.1 ∧ x.1 ≤ 6) ∧ (0 ≤ x.2.1 ∧ x.2.1 < 1099511627776) ∧ (0 ≤ x.2.2.1 ∧ x.2.2.1 ≤ 65535) ∧ (0 ≤ x.2.2.2.1 ∧ x.2.2.2.1 ≤ 65535) ∧ (0 ≤ x.2.2.2.2.2.1 ∧ x.2.2.2.2.2.1 ≤ 65535)
def FineL (l : List Rec) : Prop := l.length ≤ 100 ∧ ∀ x ∈ l, Fine x
def FineLL (L : List Lst) : Prop := L.length ≤ 8 ∧ ∀ q ∈ L, FineL q.2
theorem drop_cons' {α : Type} {L : List α} {i : Nat} {p : α} {l : List α} (h : L.drop i = p :: l) : L[i]? = some p ∧ i < L.length ∧ L.drop (i + 1) = l := by
  have h1 : i < L.length := by
    rcases Nat.lt_or_ge i L.length with h' | h'
    · exact h'
    · rw [List.drop_eq_nil_of_le h'] at h; cases h
  rw [List.drop_eq_getElem_cons h1] at h
  obtain ⟨h2, h3⟩ := List.cons.inj h
  exact ⟨by rw [List.getElem?_eq_getElem h1, h2], h1, h3⟩
/-! ### the newest of those for which p holds -/
def stp (p : Rec → Bool) (o : Option Rec) (x : Rec) : Option Rec := bif p x then (match o with | none => some x | some b => bif decide (b.2.1 < x.2.1) then some x else o) else o
def nwl (p : Rec → Bool) (L : List Lst) (o : Option Rec) : Option Rec := L.foldl (fun o q => q.2.foldl (stp p) o) o
def Z7 : Rec := (0, (0, (0, (0, (0, (0, (⟨#[]⟩ : ByteArray)))))))
def pk (kind n : Int) (x : Rec) : Bool := decide (x.1 = kind) && (decide (n < 0) || decide (x.2.2.1 = n))
theorem m40 (x : Int) : 0 ≤ bitop .and .i64 x 1099511627775 ∧ bitop .and .i64 x 1099511627775 < 1099511627776 := by
  have : bitop .and .i64 x 1099511627775 = x % 1099511627776 := and_mask x 40 (by decide)
  omega
theorem m16 (x : Int) : 0 ≤ bitop .and .i64 x 65535 ∧ bitop .and .i64 x 65535 ≤ 65535 := by
  have : bitop .and .i64 x 65535 = x % 65536 := and_mask x 16 (by decide)
  omega
theorem m2 (x : Int) : 0 ≤ bitop .and .i64 x 3 ∧ bitop .and .i64 x 3 ≤ 3 := by
  have : bitop .and .i64 x 3 = x % 4 := and_mask x 2 (by decide)
  omega
abbrev In6 := Int × (Int × (Int × (Int × (Int × Int))))
theorem given_l1 {R : Type} (e0 : List Rec → List Rec → Option R) (k : Nat) (LL : List (Bool × List In6)) (i : Nat) (q : Bool × List In6) (hq : LL[i]? = some q) : ∀ (n j t : Nat) (x : List Rec), 100 - t = n → n < j → t ≤ 100 → FineL x → x.length = t →
    ∃ x', FineL x' ∧ corbellaw10_given_l1 e0 k LL i j t x x = e0 x' x' := by
  intro n
  induction n with
  | zero =>
    intro j t x h hj ht hx hl
    obtain ⟨j, rfl⟩ : ∃ u, j = u + 1 := ⟨j - 1, by omega⟩
    refine ⟨x, hx, ?_⟩
    rw [corbellaw10_given_l1]; unfold corbellaw10_given_l1s
    rw [decide_eq_true (show (0 : Int) ≤ i by omega), cond_true, Int.toNat_natCast, hq, optb_some, decide_eq_false (show ¬ (t : Int) < 100 by omega), cond_false, Bool.cond_self]
  | succ n ih =>
    intro j t x h hj ht hx hl
    obtain ⟨j, rfl⟩ : ∃ u, j = u + 1 := ⟨j - 1, by omega⟩
    by_cases hi : t < q.2.length
    · generalize hr : q.2[t] = r
      have hrt : q.2[t]? = some r := by rw [List.getElem?_eq_getElem hi, hr]
      have a1 := m2 r.1
      have a2 := m40 r.2.1
      have a3 := m16 r.2.2.1
      have a4 := m16 r.2.2.2.1
      have a5 := m16 r.2.2.2.2.2
      have hfx : FineL (x ++ [(wrap64 ((3 : Int) + (bitop .and .i64 r.1 (3 : Int))), (bitop .and .i64 r.2.1 (1099511627775 : Int), ((bitop .and .i64 r.2.2.1 (65535 : Int)), ((bitop .and .i64 r.2.2.2.1 (65535 : Int)), (bitop .and .i64 r.2.2.2.2.1 (1099511627775 : Int), ((bitop .and .i64 r.2.2.2.2.2 (65535 : Int)), (⟨#[]⟩ : ByteArray)))))))]) := by
        refine ⟨by rw [List.length_append, List.length_singleton]; omega, fun y hy => ?_⟩
        rcases List.mem_append.1 hy with h1 | h1
        · exact hx.2 y h1
        · rw [List.mem_singleton.1 h1]
          have e3 : wrap64 ((3 : Int) + (bitop .and .i64 r.1 (3 : Int))) = 3 + bitop .and .i64 r.1 3 := w64 (by omega) (by omega)
          exact ⟨by simp only; rw [e3]; omega, a2, a3, a4, a5⟩
      obtain ⟨x', g1, g2⟩ := ih j (t + 1) _ (by omega) (by omega) (by omega) hfx (by rw [List.length_append, List.length_singleton, hl])
      refine ⟨x', g1, ?_⟩
      rw [← g2]
      rw [corbellaw10_given_l1]; unfold corbellaw10_given_l1s
      rw [decide_eq_true (show (0 : Int) ≤ i by omega), cond_true, Int.toNat_natCast, hq, optb_some, lenI_eq, decide_eq_true (show (t : Int) < q.2.length by omega), cond_true, decide_eq_true (show (t : Int) < 100 by omega), cond_true, cond_true, optb_some, decide_eq_true (show (0 : Int) ≤ t by omega), cond_true, Int.toNat_natCast, hrt, optb_some]
      unfold corbellaw10_given_j2
      try simp only
      rw [decide_eq_true (by rw [List.length_singleton]; omega), cond_true, decide_eq_true (show (0 : Int) ≤ t by omega)]
      generalize hz : wrap64 ((3 : Int) + (bitop .and .i64 r.1 (3 : Int))) = z at hfx ⊢
      rw [lenI_eq, List.length_append, List.length_singleton, decide_eq_true (show (t : Int) < ((x.length + 1 : Nat) : Int) by omega), Bool.and_self, cond_true, Int.toNat_natCast, ← hl, List.getElem?_append_right (Nat.le_refl _), Nat.sub_self, List.getElem?_cons_zero, optb_some, decide_eq_true (by rw [List.length_singleton]; omega), cond_true, hl, w64 (by omega) (by omega), show (t : Int) + 1 = ((t + 1 : Nat) : Int) by omega]
    · refine ⟨x, hx, ?_⟩
      rw [corbellaw10_given_l1]; unfold corbellaw10_given_l1s
      rw [decide_eq_true (show (0 : Int) ≤ i by omega), cond_true, Int.toNat_natCast, hq, optb_some, lenI_eq, decide_eq_false (show ¬ (t : Int) < q.2.length by omega), cond_false]
theorem given_l0 {R : Type} (e0 : List Lst → List Lst → Option R) (k : Nat) (hk : 200 ≤ k) (LL : List (Bool × List In6)) : ∀ (n j i : Nat) (a : List Lst), 8 - i = n → n < j → i ≤ 8 → FineLL a → a.length = i →
    ∃ a', FineLL a' ∧ corbellaw10_given_l0 e0 k LL j i a a = e0 a' a' := by
  intro n
  induction n with
  | zero =>
    intro j i a h hj hi ha hl
    obtain ⟨j, rfl⟩ : ∃ u, j = u + 1 := ⟨j - 1, by omega⟩
    refine ⟨a, ha, ?_⟩
    rw [corbellaw10_given_l0]; unfold corbellaw10_given_l0s
    rw [decide_eq_false (show ¬ (i : Int) < 8 by omega), cond_false, Bool.cond_self]
  | succ n ih =>
    intro j i a h hj hi ha hl
    obtain ⟨j, rfl⟩ : ∃ u, j = u + 1 := ⟨j - 1, by omega⟩
    by_cases hlt : i < LL.length
    · obtain ⟨x, hx, h1⟩ := given_l1 (fun x_27 y_28 =>
        bif (decide (a.length + ([(true, x_27)] : List Lst).length ≤ 1099511627776)) then
          bif (decide (a.length + ([(true, y_28)] : List Lst).length ≤ 1099511627776)) then
            corbellaw10_given_l0 e0 k LL j (wrap64 ((i : Int) + (1 : Int))) (a ++ ([(true, x_27)] : List Lst)) (a ++ ([(true, y_28)] : List Lst))
          else none
        else none) k LL i LL[i] (List.getElem?_eq_getElem hlt) 100 k 0 [] (by omega) (by omega) (by omega) ⟨by simp, fun x hx => by cases hx⟩ rfl
      have hfa : FineLL (a ++ [(true, x)]) := by
        refine ⟨by rw [List.length_append, List.length_singleton]; omega, fun q hq => ?_⟩
        rcases List.mem_append.1 hq with h2 | h2
        · exact ha.2 q h2
        · rw [List.mem_singleton.1 h2]; exact hx
      obtain ⟨a', g1, g2⟩ := ih j (i + 1) (a ++ [(true, x)]) (by omega) (by omega) (by omega) hfa (by rw [List.length_append, List.length_singleton, hl])
      refine ⟨a', g1, ?_⟩
      rw [← g2]
      rw [corbellaw10_given_l0]; unfold corbellaw10_given_l0s
      rw [lenI_eq, decide_eq_true (show (i : Int) < LL.length by omega), cond_true, decide_eq_true (show (i : Int) < 8 by omega), cond_true]
      refine Eq.trans h1 ?_
      rw [decide_eq_true (by rw [List.length_singleton]; omega), cond_true, cond_true, w64 (by omega) (by omega), show (i : Int) + 1 = ((i + 1 : Nat) : Int) by omega]
    · refine ⟨a, ha, ?_⟩
      rw [corbellaw10_given_l0]; unfold corbellaw10_given_l0s
      rw [lenI_eq, decide_eq_false (show ¬ (i : Int) < LL.length by omega), cond_false]
theorem given_val (k : Nat) (hk : 200 ≤ k) (b : Bool) (LL : List (Bool × List In6)) : ∃ L, FineLL L ∧ corbellaw10_given k b LL = some ((true, L), (true, L)) := by
  unfold corbellaw10_given
  obtain ⟨L, h1, h2⟩ := given_l0 (fun a_29 b_30 => some ((true, a_29), (true, b_30))) k hk LL 8 k 0 [] (by omega) (by omega) (by omega) ⟨by simp, fun q hq => by cases hq⟩ rfl
  exact ⟨L, h1, h2⟩
theorem find_l1 {R : Type} (e0 : Bool → Int → Int → Int → Int → Int → Int → ByteArray → Option R) (k : Nat) (L : List Lst) (kind n : Int) (i : Nat) (q : Lst) (hq : L[i]? = some q) (hl : q.2.length ≤ 1000000) : ∀ (rest : List Rec) (j t : Nat) (o : Option Rec), q.2.drop t = rest → rest.length < j → t ≤ q.2.length →
    corbelref10_Find_l1 e0 k L kind n i j o.isSome t (o.getD Z7).1 (o.getD Z7).2.1 (o.getD Z7).2.2.1 (o.getD Z7).2.2.2.1 (o.getD Z7).2.2.2.2.1 (o.getD Z7).2.2.2.2.2.1 (o.getD Z7).2.2.2.2.2.2 =
      (fun o' : Option Rec => e0 o'.isSome (o'.getD Z7).1 (o'.getD Z7).2.1 (o'.getD Z7).2.2.1 (o'.getD Z7).2.2.2.1 (o'.getD Z7).2.2.2.2.1 (o'.getD Z7).2.2.2.2.2.1 (o'.getD Z7).2.2.2.2.2.2) (rest.foldl (stp (pk kind n)) o)
  | [], j, t, o, h, hj, ht => by
    obtain ⟨j, rfl⟩ : ∃ u, j = u + 1 := ⟨j - 1, by omega⟩
    have := congrArg List.length h
    rw [List.length_drop, List.length_nil] at this
    rw [corbelref10_Find_l1]; unfold corbelref10_Find_l1s
    rw [decide_eq_true (show (0 : Int) ≤ i by omega), cond_true, Int.toNat_natCast, hq, optb_some, lenI_eq, decide_eq_false (show ¬ (t : Int) < q.2.length by omega), cond_false]; rfl
  | x :: rest, j, t, o, h, hj, ht => by
    obtain ⟨j, rfl⟩ : ∃ u, j = u + 1 := ⟨j - 1, by omega⟩
    obtain ⟨h1, h2, h3⟩ := drop_cons' h
    rw [List.length_cons] at hj
    have ih := find_l1 e0 k L kind n i q hq hl rest j (t + 1) (stp (pk kind n) o x) h3 (by omega) (by omega)
    rw [List.foldl_cons, ← ih]
    rw [corbelref10_Find_l1]; unfold corbelref10_Find_l1s
    rw [decide_eq_true (show (0 : Int) ≤ i by omega), cond_true, Int.toNat_natCast, hq, optb_some, lenI_eq, decide_eq_true (show (t : Int) < q.2.length by omega), cond_true, cond_true, optb_some, decide_eq_true (show (0 : Int) ≤ t by omega), cond_true, Int.toNat_natCast, h1, optb_some]
    have e1 : wrap64 ((t : Int) + 1) = ((t + 1 : Nat) : Int) := w64 (by omega) (by omega)
    by_cases c1 : x.1 = kind
    · rw [decide_eq_true c1, cond_true]
      by_cases c2 : n < 0
      · rw [decide_eq_true c2, cond_true]
        have hp : pk kind n x = true := by unfold pk; rw [decide_eq_true c1, decide_eq_true c2]; rfl
        cases o with
        | none =>
          have hs : stp (pk kind n) none x = some x := by unfold stp; rw [hp]; rfl
          rw [hs]
          show (bif (!false) then _ else _) = _
          rw [Bool.not_false, cond_true]
          unfold corbelref10_Find_j2 corbelref10_Find_k0 corbelref10_Find_j3
          rw [cond_true, e1]; rfl
        | some b =>
          show (bif (!true) then _ else _) = _
          rw [Bool.not_true, cond_false]
          unfold corbelref10_Find_j2 corbelref10_Find_k0 corbelref10_Find_j3
          by_cases c3 : b.2.1 < x.2.1
          · have hs : stp (pk kind n) (some b) x = some x := by unfold stp; rw [hp, cond_true]; simp only; rw [decide_eq_true c3, cond_true]
            rw [hs, decide_eq_true (show ((some b).getD Z7).2.1 < x.2.1 from c3), cond_true, e1]; rfl
          · have hs : stp (pk kind n) (some b) x = some b := by unfold stp; rw [hp, cond_true]; simp only; rw [decide_eq_false c3, cond_false]
            rw [hs, decide_eq_false (show ¬ ((some b).getD Z7).2.1 < x.2.1 from c3), cond_false, e1]
      · rw [decide_eq_false c2, cond_false]
        by_cases c4 : x.2.2.1 = n
        · rw [decide_eq_true c4, cond_true]
          have hp : pk kind n x = true := by unfold pk; rw [decide_eq_true c1, decide_eq_true c4, Bool.or_true]; rfl
          cases o with
          | none =>
            have hs : stp (pk kind n) none x = some x := by unfold stp; rw [hp]; rfl
            rw [hs]
            show (bif (!false) then _ else _) = _
            rw [Bool.not_false, cond_true]
            unfold corbelref10_Find_j2 corbelref10_Find_k0 corbelref10_Find_j3
            rw [cond_true, e1]; rfl
          | some b =>
            show (bif (!true) then _ else _) = _
            rw [Bool.not_true, cond_false]
            unfold corbelref10_Find_j2 corbelref10_Find_k0 corbelref10_Find_j3
            by_cases c3 : b.2.1 < x.2.1
            · have hs : stp (pk kind n) (some b) x = some x := by unfold stp; rw [hp, cond_true]; simp only; rw [decide_eq_true c3, cond_true]
              rw [hs, decide_eq_true (show ((some b).getD Z7).2.1 < x.2.1 from c3), cond_true, e1]; rfl
            · have hs : stp (pk kind n) (some b) x = some b := by unfold stp; rw [hp, cond_true]; simp only; rw [decide_eq_false c3, cond_false]
              rw [hs, decide_eq_false (show ¬ ((some b).getD Z7).2.1 < x.2.1 from c3), cond_false, e1]
        · have hs : stp (pk kind n) o x = o := by unfold stp pk; rw [decide_eq_false c2, decide_eq_false c4, Bool.or_self, Bool.and_false, cond_false]
          rw [decide_eq_false c4, cond_false, hs]
          unfold corbelref10_Find_j2 corbelref10_Find_k0 corbelref10_Find_j3
          rw [cond_false, e1]
    · have hs : stp (pk kind n) o x = o := by unfold stp pk; rw [decide_eq_false c1, Bool.false_and, cond_false]
      rw [decide_eq_false c1, cond_false, hs]
      unfold corbelref10_Find_j2 corbelref10_Find_k0 corbelref10_Find_j3
      rw [cond_false, e1]
theorem find_l0 {R : Type} (e0 : Bool → Int → Int → Int → Int → Int → Int → ByteArray → Option R) (k : Nat) (hk : 1000 ≤ k) (L : List Lst) (hL : L.length ≤ 100 ∧ ∀ q ∈ L, q.2.length ≤ 900) (kind n : Int) : ∀ (rest : List Lst) (j i : Nat) (o : Option Rec), L.drop i = rest → rest.length < j → i ≤ L.length →
    corbelref10_Find_l0 e0 k L kind n j o.isSome i (o.getD Z7).1 (o.getD Z7).2.1 (o.getD Z7).2.2.1 (o.getD Z7).2.2.2.1 (o.getD Z7).2.2.2.2.1 (o.getD Z7).2.2.2.2.2.1 (o.getD Z7).2.2.2.2.2.2 =
      (fun o' : Option Rec => e0 o'.isSome (o'.getD Z7).1 (o'.getD Z7).2.1 (o'.getD Z7).2.2.1 (o'.getD Z7).2.2.2.1 (o'.getD Z7).2.2.2.2.1 (o'.getD Z7).2.2.2.2.2.1 (o'.getD Z7).2.2.2.2.2.2) (nwl (pk kind n) rest o)
  | [], j, i, o, h, hj, hi => by
    obtain ⟨j, rfl⟩ : ∃ u, j = u + 1 := ⟨j - 1, by omega⟩
    have := congrArg List.length h
    rw [List.length_drop, List.length_nil] at this
    rw [corbelref10_Find_l0]; unfold corbelref10_Find_l0s
    rw [lenI_eq, decide_eq_false (by omega), cond_false]; rfl
  | q :: rest, j, i, o, h, hj, hi => by
    obtain ⟨j, rfl⟩ : ∃ u, j = u + 1 := ⟨j - 1, by omega⟩
    obtain ⟨h1, h2, h3⟩ := drop_cons' h
    rw [List.length_cons] at hj
    have hq := hL.2 q (List.mem_of_getElem? h1)
    have ih := find_l0 e0 k hk L hL kind n rest j (i + 1) (q.2.foldl (stp (pk kind n)) o) h3 (by omega) (by omega)
    rw [corbelref10_Find_l0]; unfold corbelref10_Find_l0s
    rw [lenI_eq, decide_eq_true (show (i : Int) < L.length by omega), cond_true]
    refine Eq.trans (find_l1 _ k L kind n i q h1 (by omega) q.2 k 0 o List.drop_zero (by omega) (by omega)) ?_
    simp only
    rw [w64 (by omega) (by omega), show (i : Int) + 1 = ((i + 1 : Nat) : Int) by omega, ih]; rfl
theorem find_val (k : Nat) (hk : 1000 ≤ k) (b : Bool) {L : List Lst} (hL : L.length ≤ 100 ∧ ∀ q ∈ L, q.2.length ≤ 900) (kind n : Int) :
    corbelref10_Find k b L kind n = some ((nwl (pk kind n) L none).getD Z7, (nwl (pk kind n) L none).isSome) := by
  unfold corbelref10_Find
  exact find_l0 (fun ok_66 besta_67 bestb_68 bestc_69 bestd_70 beste_71 bestf_72 bestg_73 => some ((besta_67, (bestb_68, (bestc_69, (bestd_70, (beste_71, (bestf_72, bestg_73)))))), ok_66)) k hk L hL kind n L k 0 none List.drop_zero (by omega) (by omega)
/-! ### the newest of each subject -/
abbrev K2 : Ty := .pair (.int .i64) (.int .i64)
def ofR (x : Rec) : Int × Int := if x.1 = 6 then (x.1, 0) else (x.1, x.2.2.1)
theorem of_val (k : Nat) (x : Rec) : book_of k x.1 x.2.1 x.2.2.1 x.2.2.2.1 x.2.2.2.2.1 x.2.2.2.2.2.1 x.2.2.2.2.2.2 = some (ofR x) := by
  unfold book_of ofR
  by_cases h : x.1 = 6
  · rw [decide_eq_true h, cond_true, if_pos h]
  · rw [decide_eq_false h, cond_false, if_neg h]
def kp (key : Int × Int) (x : Rec) : Bool := decide (ofR x = key)
def mxs (l : List Rec) (m : Int) : Int := l.foldl (fun m x => bif decide (x.2.1 > m) then x.2.1 else m) m
def mxl (L : List Lst) (m : Int) : Int := L.foldl (fun m q => mxs q.2 m) m
theorem mget_put2 (a b : Int × Int) (v : Rec) (c : Nat) (D : List (Nat × (Int × Int) × Rec)) : mget K2 (mput K2 a v c D) b = if b = a then some v else mget K2 D b := by
  rw [mget_put (K := K2) rfl]
  by_cases h : b = a
  · rw [if_pos h, (eqb_iff K2 b a rfl).2 h]; rfl
  · rw [if_neg h]
    cases hb : K2.eqb b a with
    | true => exact absurd ((eqb_iff K2 b a rfl).1 hb) h
    | false => rfl
theorem stp_key (D : List (Nat × (Int × Int) × Rec)) (x : Rec) (c : Nat) (D' : List (Nat × (Int × Int) × Rec)) (key : Int × Int)
    (h : D' = (bif (!(mhas K2 D (ofR x))) then mput K2 (ofR x) x c D else bif decide ((mval K2 Z7 D (ofR x)).2.1 < x.2.1) then mput K2 (ofR x) x c D else D)) :
    mget K2 D' key = stp (kp key) (mget K2 D key) x := by
  unfold stp kp
  by_cases hk : ofR x = key
  · rw [decide_eq_true hk, cond_true, h]
    cases hg : mget K2 D key with
    | none =>
      have : mhas K2 D (ofR x) = false := by unfold mhas; rw [hk, hg]; rfl
      rw [this, Bool.not_false, cond_true, mget_put2, if_pos hk.symm]
    | some b =>
      have h1 : mhas K2 D (ofR x) = true := by unfold mhas; rw [hk, hg]; rfl
      have h2 : mval K2 Z7 D (ofR x) = b := by unfold mval; rw [hk, hg]; rfl
      rw [h1, Bool.not_true, cond_false, h2]
      simp only
      by_cases hlt : b.2.1 < x.2.1
      · rw [decide_eq_true hlt, cond_true, cond_true, mget_put2, if_pos hk.symm]
      · rw [decide_eq_false hlt, cond_false, cond_false, hg]
  · rw [decide_eq_false hk, cond_false, h]
    have hp : mget K2 (mput K2 (ofR x) x c D) key = mget K2 D key := by rw [mget_put2, if_neg (fun e => hk e.symm)]
    cases mhas K2 D (ofR x) with
    | false => rw [Bool.not_false, cond_true, hp]
    | true =>
      rw [Bool.not_true, cond_false]
      cases decide ((mval K2 Z7 D (ofR x)).2.1 < x.2.1) with
      | true => rw [cond_true, hp]
      | false => rw [cond_false]
theorem new_l1 {R : Type} (e0 : Int → List (Nat × (Int × Int) × Rec) → Nat → Option R) (k : Nat) (q : List Rec) (hq : q.length ≤ 1000000) : ∀ (rest : List Rec) (j t : Nat) (m : Int) (D : List (Nat × (Int × Int) × Rec)) (c : Nat), q.drop t = rest → rest.length < j → t ≤ q.length →
    ∃ D' c', (∀ key, mget K2 D' key = rest.foldl (stp (kp key)) (mget K2 D key)) ∧ book_Read_i38_2_l1 e0 k q (lenI q) j m t D c = e0 (mxs rest m) D' c'
  | [], j, t, m, D, c, h, hj, ht => by
    obtain ⟨j, rfl⟩ : ∃ u, j = u + 1 := ⟨j - 1, by omega⟩
    have := congrArg List.length h
    rw [List.length_drop, List.length_nil] at this
    refine ⟨D, c, fun key => rfl, ?_⟩
    rw [book_Read_i38_2_l1]; unfold book_Read_i38_2_l1s
    rw [lenI_eq, decide_eq_false (by omega), cond_false]; rfl
  | x :: rest, j, t, m, D, c, h, hj, ht => by
    obtain ⟨j, rfl⟩ : ∃ u, j = u + 1 := ⟨j - 1, by omega⟩
    obtain ⟨h1, h2, h3⟩ := drop_cons' h
    rw [List.length_cons] at hj
    obtain ⟨Dn, hDn⟩ : ∃ Dn, Dn = (bif (!(mhas K2 D (ofR x))) then mput K2 (ofR x) x c D else bif decide ((mval K2 Z7 D (ofR x)).2.1 < x.2.1) then mput K2 (ofR x) x c D else D) := ⟨_, rfl⟩
    obtain ⟨cn, hcn⟩ : ∃ cn, cn = (bif (!(mhas K2 D (ofR x))) then mclk K2 D (ofR x) c else bif decide ((mval K2 Z7 D (ofR x)).2.1 < x.2.1) then mclk K2 D (ofR x) c else c) := ⟨_, rfl⟩
    obtain ⟨D', c', g1, g2⟩ := new_l1 e0 k q hq rest j (t + 1) (bif decide (x.2.1 > m) then x.2.1 else m) Dn cn h3 (by omega) (by omega)
    refine ⟨D', c', fun key => by rw [g1 key, stp_key D x c Dn key hDn]; rfl, ?_⟩
    show _ = e0 (mxs rest (bif decide (x.2.1 > m) then x.2.1 else m)) D' c'
    rw [← g2]
    rw [book_Read_i38_2_l1]; unfold book_Read_i38_2_l1s
    rw [lenI_eq, decide_eq_true (show (t : Int) < q.length by omega), cond_true, decide_eq_true (show (0 : Int) ≤ t by omega), cond_true, Int.toNat_natCast, h1, optb_some]
    try simp only
    rw [of_val, optb_some]
    have e1 : wrap64 ((t : Int) + 1) = ((t + 1 : Nat) : Int) := w64 (by omega) (by omega)
    have hz : (Ty.zero (.pair (.int .i64) (.pair (.int .i64) (.pair (.int .i64) (.pair (.int .i64) (.pair (.int .i64) (.pair (.int .i64) .str)))))) : Rec) = Z7 := rfl
    show (bif (!(mhas K2 D (ofR x))) then _ else _) = _
    cases hm : mhas K2 D (ofR x) with
    | false =>
      rw [hm] at hDn hcn
      rw [Bool.not_false, cond_true] at hDn hcn ⊢
      unfold book_Read_i38_2_j2
      rw [cond_true, of_val, optb_some]
      unfold book_Read_i38_2_j3
      rw [e1, hDn, hcn]
    | true =>
      rw [hm] at hDn hcn
      rw [Bool.not_true, cond_false] at hDn hcn ⊢
      unfold book_Read_i38_2_j2
      show (bif decide ((mval K2 Z7 D (ofR x)).2.1 < x.2.1) then _ else _) = _
      cases hd : decide ((mval K2 Z7 D (ofR x)).2.1 < x.2.1) with
      | true =>
        rw [hd, cond_true] at hDn hcn
        rw [cond_true, of_val, optb_some]
        unfold book_Read_i38_2_j3
        rw [e1, hDn, hcn]
      | false =>
        rw [hd, cond_false] at hDn hcn
        rw [cond_false]
        unfold book_Read_i38_2_j3
        rw [e1, hDn, hcn]
theorem new_l0 {R : Type} (e0 : Int → List (Nat × (Int × Int) × Rec) → Nat → Option R) (k : Nat) (hk : 1000 ≤ k) (L : List Lst) (hL : L.length ≤ 100 ∧ ∀ q ∈ L, q.2.length ≤ 900) : ∀ (rest : List Lst) (j i : Nat) (m : Int) (D : List (Nat × (Int × Int) × Rec)) (c : Nat), L.drop i = rest → rest.length < j → i ≤ L.length →
    ∃ D' c', (∀ key, mget K2 D' key = nwl (kp key) rest (mget K2 D key)) ∧ book_Read_i38_2_l0 e0 k L (lenI L) j m i D c = e0 (mxl rest m) D' c'
  | [], j, i, m, D, c, h, hj, hi => by
    obtain ⟨j, rfl⟩ : ∃ u, j = u + 1 := ⟨j - 1, by omega⟩
    have := congrArg List.length h
    rw [List.length_drop, List.length_nil] at this
    refine ⟨D, c, fun key => rfl, ?_⟩
    rw [book_Read_i38_2_l0]; unfold book_Read_i38_2_l0s
    rw [lenI_eq, decide_eq_false (by omega), cond_false]; rfl
  | q :: rest, j, i, m, D, c, h, hj, hi => by
    obtain ⟨j, rfl⟩ : ∃ u, j = u + 1 := ⟨j - 1, by omega⟩
    obtain ⟨h1, h2, h3⟩ := drop_cons' h
    rw [List.length_cons] at hj
    have hq := hL.2 q (List.mem_of_getElem? h1)
    obtain ⟨D1, c1, f1, f2⟩ := new_l1 (fun seq_34 ha_35 hb_36 => book_Read_i38_2_l0 e0 k L (lenI L) j seq_34 (wrap64 ((i : Int) + (1 : Int))) ha_35 hb_36) k q.2 (by omega) q.2 k 0 m D c List.drop_zero (by omega) (by omega)
    obtain ⟨D', c', g1, g2⟩ := new_l0 e0 k hk L hL rest j (i + 1) (mxs q.2 m) D1 c1 h3 (by omega) (by omega)
    refine ⟨D', c', fun key => by rw [g1 key, f1 key]; rfl, ?_⟩
    show _ = e0 (mxl rest (mxs q.2 m)) D' c'
    rw [← g2]
    rw [book_Read_i38_2_l0]; unfold book_Read_i38_2_l0s
    have hl : lenI L = (L.length : Int) := lenI_eq L
    rw [hl, decide_eq_true (show (i : Int) < L.length by omega), cond_true, decide_eq_true (show (0 : Int) ≤ i by omega), cond_true, Int.toNat_natCast, h1, optb_some, ← hl]
    refine Eq.trans f2 ?_
    rw [w64 (by omega) (by omega), show (i : Int) + 1 = ((i + 1 : Nat) : Int) by omega]
/-- One subject: as the map has it, and as the document finds it. -/
theorem nwl_congr (p p' : Rec → Bool) (L : List Lst) (h : ∀ q ∈ L, ∀ x ∈ q.2, p x = p' x) : ∀ o, nwl p L o = nwl p' L o := by
  have one : ∀ (l : List Rec), (∀ x ∈ l, p x = p' x) → ∀ o, l.foldl (stp p) o = l.foldl (stp p') o := by
    intro l
    induction l with
    | nil => intro _ o; rfl
    | cons x l ih =>
      intro hl o
      have hx : stp p o x = stp p' o x := by unfold stp; rw [hl x (List.mem_cons_self ..)]
      rw [List.foldl_cons, List.foldl_cons, hx]
      exact ih (fun y hy => hl y (List.mem_cons_of_mem _ hy)) _
  induction L with
  | nil => intro o; rfl
  | cons q L ih =>
    intro o
    show nwl p L (q.2.foldl (stp p) o) = nwl p' L (q.2.foldl (stp p') o)
    rw [one q.2 (h q (List.mem_cons_self ..)) o]
    exact ih (fun q' hq' => h q' (List.mem_cons_of_mem _ hq')) _
theorem kp_zone {z : Int} (hz : 0 ≤ z) (x : Rec) : pk 3 z x = kp (3, z) x := by
  unfold pk kp ofR
  rw [decide_eq_false (show ¬ z < 0 by omega), Bool.false_or]
  by_cases h : x.1 = 6
  · rw [if_pos h, decide_eq_false (by omega), Bool.false_and]
    exact (decide_eq_false (fun e => by have := congrArg Prod.fst e; simp at this; omega)).symm
  · rw [if_neg h]
    by_cases h1 : x.1 = 3
    · by_cases h2 : x.2.2.1 = z
      · rw [decide_eq_true h1, decide_eq_true h2, h1, h2]; simp
      · rw [decide_eq_true h1, decide_eq_false h2, decide_eq_false (fun e => h2 (congrArg Prod.snd e))]; rfl
    · rw [decide_eq_false h1, decide_eq_false (fun e => h1 (congrArg Prod.fst e)), Bool.false_and]
theorem kp_member {z : Int} (hz : 0 ≤ z) (x : Rec) : pk 5 z x = kp (5, z) x := by
  unfold pk kp ofR
  rw [decide_eq_false (show ¬ z < 0 by omega), Bool.false_or]
  by_cases h : x.1 = 6
  · rw [if_pos h, decide_eq_false (by omega), Bool.false_and]
    exact (decide_eq_false (fun e => by have := congrArg Prod.fst e; simp at this; omega)).symm
  · rw [if_neg h]
    by_cases h1 : x.1 = 5
    · by_cases h2 : x.2.2.1 = z
      · rw [decide_eq_true h1, decide_eq_true h2, h1, h2]; simp
      · rw [decide_eq_true h1, decide_eq_false h2, decide_eq_false (fun e => h2 (congrArg Prod.snd e))]; rfl
    · rw [decide_eq_false h1, decide_eq_false (fun e => h1 (congrArg Prod.fst e)), Bool.false_and]
theorem kp_cursor (x : Rec) : pk 6 (-1) x = kp (6, 0) x := by
  unfold pk kp ofR
  rw [decide_eq_true (show (-1 : Int) < 0 by omega), Bool.true_or, Bool.and_true]
  by_cases h : x.1 = 6
  · rw [if_pos h, decide_eq_true h, h]; simp
  · rw [if_neg h, decide_eq_false h]
    exact (decide_eq_false (fun e => h (congrArg Prod.fst e))).symm
/-- The record that is found bears what was asked for. -/
theorem nwl_has (p : Rec → Bool) (L : List Lst) : ∀ (o : Option Rec), (∀ x, o = some x → p x = true) → ∀ x, nwl p L o = some x → p x = true := by
  have one : ∀ (l : List Rec) (o : Option Rec), (∀ x, o = some x → p x = true) → ∀ x, l.foldl (stp p) o = some x → p x = true := by
    intro l
    induction l with
    | nil => intro o h; exact h
    | cons y l ih =>
      intro o h
      rw [List.foldl_cons]
      refine ih _ fun x hx => ?_
      unfold stp at hx
      cases hp : p y with
      | false => rw [hp, cond_false] at hx; exact h x hx
      | true =>
        rw [hp, cond_true] at hx
        cases o with
        | none => cases hx; exact hp
        | some b =>
          simp only at hx
          cases hd : decide (b.2.1 < y.2.1) with
          | true => rw [hd, cond_true] at hx; cases hx; exact hp
          | false => rw [hd, cond_false] at hx; exact h x hx
  induction L with
  | nil => intro o h; exact h
  | cons q L ih => intro o h; exact ih _ (one q.2 o h)
theorem nwl_mem (p : Rec → Bool) (P : Rec → Prop) (L : List Lst) (hL : ∀ q ∈ L, ∀ x ∈ q.2, P x) : ∀ (o : Option Rec), (∀ x, o = some x → P x) → ∀ x, nwl p L o = some x → P x := by
  have one : ∀ (l : List Rec), (∀ x ∈ l, P x) → ∀ (o : Option Rec), (∀ x, o = some x → P x) → ∀ x, l.foldl (stp p) o = some x → P x := by
    intro l
    induction l with
    | nil => intro _ o h; exact h
    | cons y l ih =>
      intro hl o h
      rw [List.foldl_cons]
      refine ih (fun x hx => hl x (List.mem_cons_of_mem _ hx)) _ fun x hx => ?_
      have hy := hl y (List.mem_cons_self ..)
      unfold stp at hx
      cases hp : p y with
      | false => rw [hp, cond_false] at hx; exact h x hx
      | true =>
        rw [hp, cond_true] at hx
        cases o with
        | none => cases hx; exact hy
        | some b =>
          simp only at hx
          cases hd : decide (b.2.1 < y.2.1) with
          | true => rw [hd, cond_true] at hx; cases hx; exact hy
          | false => rw [hd, cond_false] at hx; exact h x hx
  induction L with
  | nil => intro o h; exact h
  | cons q L ih => intro o h; exact ih (fun q' hq' => hL q' (List.mem_cons_of_mem _ hq')) _ (one q.2 (hL q (List.mem_cons_self ..)) o h)
/-! ### the book's beginning, what is wanted -/
abbrev Zn := Int × (Int × Int)
theorem newz_loop {R : Type} (e0 : List Zn → Option R) (k : Nat) {v : Nat} (hv : v ≤ 1000) : ∀ (n j i : Nat) (b : List Zn), i + n = v → n < j → b.length = i → ∃ b' : List Zn, b'.length = v ∧ book_New_l0 e0 k v j i b = e0 b'
  | 0, j, i, b, h, hj, hb => by
    obtain ⟨j, rfl⟩ : ∃ u, j = u + 1 := ⟨j - 1, by omega⟩
    refine ⟨b, by omega, ?_⟩
    rw [book_New_l0]; unfold book_New_l0s
    rw [decide_eq_false (by omega), cond_false]
  | n + 1, j, i, b, h, hj, hb => by
    obtain ⟨j, rfl⟩ : ∃ u, j = u + 1 := ⟨j - 1, by omega⟩
    obtain ⟨b', g1, g2⟩ := newz_loop e0 k hv n j (i + 1) (b ++ [((wrap64 ((i : Int) + 2)), (1, 0))]) (by omega) (by omega) (by rw [List.length_append, List.length_singleton, hb])
    refine ⟨b', g1, ?_⟩
    rw [← g2]
    rw [book_New_l0]; unfold book_New_l0s
    rw [decide_eq_true (show (i : Int) < v by omega), cond_true, decide_eq_true (by rw [List.length_singleton]; omega), cond_true, w64 (n := (i : Int) + 1) (by omega) (by omega), show (i : Int) + 1 = ((i + 1 : Nat) : Int) by omega]
theorem newm_loop {R : Type} (e0 : List Int → Option R) (k : Nat) {v : Nat} (hv : v ≤ 1000) : ∀ (n j i : Nat) (b : List Int), i + n = v → n < j → b.length = i → ∃ b' : List Int, b'.length = v ∧ book_New_l1 e0 k v j i b = e0 b'
  | 0, j, i, b, h, hj, hb => by
    obtain ⟨j, rfl⟩ : ∃ u, j = u + 1 := ⟨j - 1, by omega⟩
    refine ⟨b, by omega, ?_⟩
    rw [book_New_l1]; unfold book_New_l1s
    rw [decide_eq_false (by omega), cond_false]
  | n + 1, j, i, b, h, hj, hb => by
    obtain ⟨j, rfl⟩ : ∃ u, j = u + 1 := ⟨j - 1, by omega⟩
    obtain ⟨b', g1, g2⟩ := newm_loop e0 k hv n j (i + 1) (b ++ [(i : Int)]) (by omega) (by omega) (by rw [List.length_append, List.length_singleton, hb])
    refine ⟨b', g1, ?_⟩
    rw [← g2]
    rw [book_New_l1]; unfold book_New_l1s
    rw [decide_eq_true (show (i : Int) < v by omega), cond_true, decide_eq_true (by rw [List.length_singleton]; omega), cond_true, w64 (n := (i : Int) + 1) (by omega) (by omega), show (i : Int) + 1 = ((i + 1 : Nat) : Int) by omega]
theorem wantz_loop {R : Type} (e0 : List (Int × Int) → Option R) (k : Nat) {v : Nat} (hv : v ≤ 1000) (w0 : List (Int × Int)) (hw : w0.length ≤ 10) : ∀ (n j i : Nat), i + n = v → n < j → book_Read_l0 e0 k v j i (w0 ++ (List.range i).map fun z : Nat => ((3 : Int), (z : Int))) = e0 (w0 ++ (List.range v).map fun z : Nat => ((3 : Int), (z : Int)))
  | 0, j, i, h, hj => by
    obtain ⟨j, rfl⟩ : ∃ u, j = u + 1 := ⟨j - 1, by omega⟩
    rw [book_Read_l0]; unfold book_Read_l0s
    rw [decide_eq_false (by omega), cond_false, show i = v by omega]
  | n + 1, j, i, h, hj => by
    obtain ⟨j, rfl⟩ : ∃ u, j = u + 1 := ⟨j - 1, by omega⟩
    rw [← wantz_loop e0 k hv w0 hw n j (i + 1) (by omega) (by omega)]
    rw [book_Read_l0]; unfold book_Read_l0s
    rw [decide_eq_true (show (i : Int) < v by omega), cond_true, decide_eq_true (by rw [List.length_singleton, List.length_append, List.length_map, List.length_range]; omega), cond_true, w64 (n := (i : Int) + 1) (by omega) (by omega), show (i : Int) + 1 = ((i + 1 : Nat) : Int) by omega, List.range_succ, List.map_append, List.append_assoc]; rfl
theorem wantm_loop {R : Type} (e0 : List (Int × Int) → Option R) (k : Nat) {v : Nat} (hv : v ≤ 1000) (w0 : List (Int × Int)) (hw : w0.length ≤ 2000) : ∀ (n j i : Nat), i + n = v → n < j → book_Read_l1 e0 k v j i (w0 ++ (List.range i).map fun z : Nat => ((5 : Int), (z : Int))) = e0 (w0 ++ (List.range v).map fun z : Nat => ((5 : Int), (z : Int)))
  | 0, j, i, h, hj => by
    obtain ⟨j, rfl⟩ : ∃ u, j = u + 1 := ⟨j - 1, by omega⟩
    rw [book_Read_l1]; unfold book_Read_l1s
    rw [decide_eq_false (by omega), cond_false, show i = v by omega]
  | n + 1, j, i, h, hj => by
    obtain ⟨j, rfl⟩ : ∃ u, j = u + 1 := ⟨j - 1, by omega⟩
    rw [← wantm_loop e0 k hv w0 hw n j (i + 1) (by omega) (by omega)]
    rw [book_Read_l1]; unfold book_Read_l1s
    rw [decide_eq_true (show (i : Int) < v by omega), cond_true, decide_eq_true (by rw [List.length_singleton, List.length_append, List.length_map, List.length_range]; omega), cond_true, w64 (n := (i : Int) + 1) (by omega) (by omega), show (i : Int) + 1 = ((i + 1 : Nat) : Int) by omega, List.range_succ, List.map_append, List.append_assoc]; rfl
/-! ### a record more -/
theorem cloneZ (k : Nat) (b : Bool) (L : List Zn) (h : L.length ≤ 1000) : ∃ b', slices_Clone k b L = some (b', L) := by
  unfold slices_Clone
  cases hb : (b && L.isEmpty) with
  | true =>
    rw [Bool.and_eq_true] at hb
    obtain rfl := List.isEmpty_iff.1 hb.2
    exact ⟨true, by rw [cond_true]⟩
  | false => exact ⟨false, by rw [cond_false, decide_eq_true (by rw [List.length_nil]; omega), cond_true, List.nil_append]⟩
theorem cloneM (k : Nat) (b : Bool) (L : List Int) (h : L.length ≤ 1000) : ∃ b', slices_Clone_46 k b L = some (b', L) := by
  unfold slices_Clone_46
  cases hb : (b && L.isEmpty) with
  | true =>
    rw [Bool.and_eq_true] at hb
    obtain rfl := List.isEmpty_iff.1 hb.2
    exact ⟨true, by rw [cond_true]⟩
  | false => exact ⟨false, by rw [cond_false, decide_eq_true (by rw [List.length_nil]; omega), cond_true, List.nil_append]⟩
def noteN (k : Nat) (ba : Int) (bb : Bool) (Z : List Zn) (bd : Bool) (M : List Int) (bf bg : Int) (x : Rec) := book_Book_Note k ba bb Z bd M bf bg x.1 x.2.1 x.2.2.1 x.2.2.2.1 x.2.2.2.2.1 x.2.2.2.2.2.1 x.2.2.2.2.2.2
theorem note_cursor (k : Nat) (ba : Int) (bb : Bool) (Z : List Zn) (bd : Bool) (M : List Int) (bf bg : Int) (x : Rec) (hZ : Z.length ≤ 1000) (hM : M.length ≤ 1000) (hx : x.1 = 6) :
    ∃ ba' bb' bd', noteN k ba bb Z bd M bf bg x = some (ba', ((bb', Z), ((bd', M), (if x.2.2.1 = 65535 then -1 else x.2.2.1, x.2.2.2.1)))) := by
  obtain ⟨b1, h1⟩ := cloneZ k bb Z hZ
  obtain ⟨b2, h2⟩ := cloneM k bd M hM
  refine ⟨bif decide (x.2.1 > ba) then x.2.1 else ba, b1, b2, ?_⟩
  unfold noteN book_Book_Note
  rw [h1, optb_some, h2, optb_some, decide_eq_false (show ¬ x.1 = 3 by omega), cond_false]
  unfold book_Book_Note_j0
  rw [cond_false, decide_eq_false (show ¬ x.1 = 5 by omega), cond_false]
  unfold book_Book_Note_j1 book_Book_Note_k0 book_Book_Note_k1 book_Book_Note_j2
  rw [cond_false, decide_eq_true hx, cond_true]
  by_cases h : x.2.2.1 = 65535
  · rw [decide_eq_true h, cond_true, if_pos h]
  · rw [decide_eq_false h, cond_false, if_neg h]
theorem note_zone (k : Nat) (ba : Int) (bb : Bool) (Z : List Zn) (bd : Bool) (M : List Int) (bf bg : Int) (x : Rec) (hZ : Z.length ≤ 1000) (hM : M.length ≤ 1000) (hx : x.1 = 3) {z : Nat} (hz : x.2.2.1 = z) (hl : z < Z.length) :
    ∃ ba' bb' bd', noteN k ba bb Z bd M bf bg x = some (ba', ((bb', Z.set z (x.2.2.2.1, (x.2.2.2.2.1, x.2.2.2.2.2.1))), ((bd', M), (bf, bg)))) := by
  obtain ⟨b1, h1⟩ := cloneZ k bb Z hZ
  obtain ⟨b2, h2⟩ := cloneM k bd M hM
  refine ⟨bif decide (x.2.1 > ba) then x.2.1 else ba, b1, b2, ?_⟩
  unfold noteN book_Book_Note
  rw [h1, optb_some, h2, optb_some, decide_eq_true hx, cond_true, hz, decide_eq_true (show (0 : Int) ≤ z by omega), cond_true]
  try simp only
  unfold book_Book_Note_j0
  rw [lenI_eq, decide_eq_true (show (z : Int) < Z.length by omega), cond_true, decide_eq_true (show (0 : Int) ≤ z by omega), Bool.and_self, cond_true, Int.toNat_natCast, List.getElem?_eq_getElem hl, optb_some]
  rfl
theorem note_member (k : Nat) (ba : Int) (bb : Bool) (Z : List Zn) (bd : Bool) (M : List Int) (bf bg : Int) (x : Rec) (hZ : Z.length ≤ 1000) (hM : M.length ≤ 1000) (hx : x.1 = 5) {z : Nat} (hz : x.2.2.1 = z) (hl : z < M.length) :
    ∃ ba' bb' bd', noteN k ba bb Z bd M bf bg x = some (ba', ((bb', Z), ((bd', M.set z x.2.2.2.1), (bf, bg)))) := by
  obtain ⟨b1, h1⟩ := cloneZ k bb Z hZ
  obtain ⟨b2, h2⟩ := cloneM k bd M hM
  refine ⟨bif decide (x.2.1 > ba) then x.2.1 else ba, b1, b2, ?_⟩
  unfold noteN book_Book_Note
  rw [h1, optb_some, h2, optb_some, decide_eq_false (show ¬ x.1 = 3 by omega), cond_false]
  try simp only
  unfold book_Book_Note_j0
  rw [cond_false, decide_eq_true hx, cond_true, hz, decide_eq_true (show (0 : Int) ≤ z by omega), cond_true]
  unfold book_Book_Note_j1
  rw [lenI_eq, decide_eq_true (show (z : Int) < M.length by omega), cond_true, decide_eq_true (show (0 : Int) ≤ z by omega), Bool.and_self, cond_true, Int.toNat_natCast, List.getElem?_eq_getElem hl, optb_some]
  rfl
/-! ### all that is wanted, one after the other -/
def znOf (x : Rec) : Zn := (x.2.2.2.1, (x.2.2.2.2.1, x.2.2.2.2.2.1))
theorem l2_step {R : Type} (e0 : Int → Int → Int → Int → Bool → List Zn → Bool → List Int → Int → Int → Int → Option R) (e1 : Bool → List Zn → Bool → List Int → Int → Int → Int → Option R) (k : Nat) (D : List (Nat × (Int × Int) × Rec)) (W : List (Int × Int)) (hW : W.length ≤ 10000) (j i : Nat) (key : Int × Int) (hk : W[i]? = some key)
    (ba : Int) (bb : Bool) (Z : List Zn) (bd : Bool) (M : List Int) (bf bg : Int) :
    book_Read_l2 e0 e1 k (lenI W) D W (j + 1) i bb Z bd M ba bf bg = (match mget K2 D key with
      | none => e0 9 0 0 0 bb Z bd M ba bf bg
      | some x => optb (noteN k ba bb Z bd M bf bg x) fun r => book_Read_l2 e0 e1 k (lenI W) D W j ((i + 1 : Nat) : Int) r.2.1.1 r.2.1.2 r.2.2.1.1 r.2.2.1.2 r.1 r.2.2.2.1 r.2.2.2.2) := by
  have hi : i < W.length := (List.getElem?_eq_some_iff.1 hk).1
  have hl : lenI W = (W.length : Int) := lenI_eq W
  rw [book_Read_l2]; unfold book_Read_l2s
  rw [hl, decide_eq_true (show (i : Int) < W.length by omega), cond_true, decide_eq_true (show (0 : Int) ≤ i by omega), Bool.and_self, cond_true, Int.toNat_natCast, hk, optb_some, ← hl]
  have e1' : wrap64 ((i : Int) + 1) = ((i + 1 : Nat) : Int) := w64 (by omega) (by omega)
  show (bif (!(mhas K2 D key)) then _ else optb (noteN k ba bb Z bd M bf bg (mval K2 Z7 D key)) _) = _
  cases hg : mget K2 D key with
  | none =>
    have : mhas K2 D key = false := by unfold mhas; rw [hg]; rfl
    rw [this, Bool.not_false, cond_true]
  | some x =>
    have h1 : mhas K2 D key = true := by unfold mhas; rw [hg]; rfl
    have h2 : mval K2 Z7 D key = x := by unfold mval; rw [hg]; rfl
    rw [h1, Bool.not_true, cond_false, h2, e1']
theorem zones_stage {R : Type} (e0 : Int → Int → Int → Int → Bool → List Zn → Bool → List Int → Int → Int → Int → Option R) (e1 : Bool → List Zn → Bool → List Int → Int → Int → Int → Option R) (k : Nat) (D : List (Nat × (Int × Int) × Rec)) (W : List (Int × Int)) (hW : W.length ≤ 10000) (off nz : Nat) (hz : nz ≤ 1000) (hw : ∀ z, z < nz → W[off + z]? = some (3, (z : Int)))
    (hD : ∀ key x, mget K2 D key = some x → ofR x = key) (Q : Option R → Prop) (he : ∀ z, z < nz → mget K2 D (3, (z : Int)) = none → ∀ ba bb Z bd M bf bg, Q (e0 9 0 0 0 bb Z bd M ba bf bg)) (M : List Int) (hM : M.length ≤ 1000) (bf bg : Int) (j0 : Nat) :
    ∀ (n i : Nat) (ba : Int) (bb : Bool) (Z : List Zn) (bd : Bool), i + n = nz → Z.length = nz → (∀ z, z < i → ∃ x, mget K2 D (3, (z : Int)) = some x ∧ Z[z]? = some (znOf x)) →
      (∀ ba bb Z bd, Z.length = nz → (∀ z, z < nz → ∃ x, mget K2 D (3, (z : Int)) = some x ∧ Z[z]? = some (znOf x)) → Q (book_Read_l2 e0 e1 k (lenI W) D W j0 ((off + nz : Nat) : Int) bb Z bd M ba bf bg)) →
      ((∃ z, z < nz ∧ mget K2 D (3, (z : Int)) = none) → True) → Q (book_Read_l2 e0 e1 k (lenI W) D W (j0 + n) ((off + i : Nat) : Int) bb Z bd M ba bf bg)
  | 0, i, ba, bb, Z, bd, h, hZ, hz', hend, _ => by
    rw [Nat.add_zero, show i = nz by omega]
    exact hend ba bb Z bd hZ (by rw [show nz = i by omega]; exact hz')
  | n + 1, i, ba, bb, Z, bd, h, hZ, hz', hend, hx => by
    rw [show j0 + (n + 1) = (j0 + n) + 1 by omega, l2_step e0 e1 k D W hW (j0 + n) (off + i) _ (hw i (by omega))]
    cases hg : mget K2 D (3, (i : Int)) with
    | none => exact he i (by omega) hg _ _ _ _ _ _ _
    | some x =>
      have ho := hD _ x hg
      have h6 : ¬ x.1 = 6 := fun e => by
        unfold ofR at ho; rw [if_pos e] at ho; have := congrArg Prod.fst ho; simp at this; omega
      unfold ofR at ho
      rw [if_neg h6] at ho
      have hk3 : x.1 = 3 := congrArg Prod.fst ho
      have hA : x.2.2.1 = (i : Int) := congrArg Prod.snd ho
      obtain ⟨ba', bb', bd', hn⟩ := note_zone k ba bb Z bd M bf bg x (by omega) hM hk3 hA (by omega)
      simp only
      rw [hn, optb_some, show off + i + 1 = off + (i + 1) by omega]
      refine zones_stage e0 e1 k D W hW off nz hz hw hD Q he M hM bf bg j0 n (i + 1) ba' bb' _ bd' (by omega) (by rw [List.length_set]; exact hZ) (fun z hzi => ?_) hend hx
      by_cases e : z = i
      · subst e
        exact ⟨x, hg, List.getElem?_set_self (by omega)⟩
      · obtain ⟨y, h1, h2⟩ := hz' z (by omega)
        exact ⟨y, h1, by rw [List.getElem?_set_ne (fun e' => e e'.symm)]; exact h2⟩
theorem members_stage {R : Type} (e0 : Int → Int → Int → Int → Bool → List Zn → Bool → List Int → Int → Int → Int → Option R) (e1 : Bool → List Zn → Bool → List Int → Int → Int → Int → Option R) (k : Nat) (D : List (Nat × (Int × Int) × Rec)) (W : List (Int × Int)) (hW : W.length ≤ 10000) (off nz : Nat) (hz : nz ≤ 1000) (hw : ∀ z, z < nz → W[off + z]? = some (5, (z : Int)))
    (hD : ∀ key x, mget K2 D key = some x → ofR x = key) (Q : Option R → Prop) (he : ∀ z, z < nz → mget K2 D (5, (z : Int)) = none → ∀ ba bb Z bd M bf bg, Q (e0 9 0 0 0 bb Z bd M ba bf bg)) (Z : List Zn) (hM : Z.length ≤ 1000) (bf bg : Int) (j0 : Nat) :
    ∀ (n i : Nat) (ba : Int) (bb : Bool) (M : List Int) (bd : Bool), i + n = nz → M.length = nz → (∀ z, z < i → ∃ x, mget K2 D (5, (z : Int)) = some x ∧ M[z]? = some x.2.2.2.1) →
      (∀ ba bb M bd, M.length = nz → (∀ z, z < nz → ∃ x, mget K2 D (5, (z : Int)) = some x ∧ M[z]? = some x.2.2.2.1) → Q (book_Read_l2 e0 e1 k (lenI W) D W j0 ((off + nz : Nat) : Int) bb Z bd M ba bf bg)) →
      Q (book_Read_l2 e0 e1 k (lenI W) D W (j0 + n) ((off + i : Nat) : Int) bb Z bd M ba bf bg)
  | 0, i, ba, bb, M, bd, h, hZ, hz', hend => by
    rw [Nat.add_zero, show i = nz by omega]
    exact hend ba bb M bd hZ (by rw [show nz = i by omega]; exact hz')
  | n + 1, i, ba, bb, M, bd, h, hZ, hz', hend => by
    rw [show j0 + (n + 1) = (j0 + n) + 1 by omega, l2_step e0 e1 k D W hW (j0 + n) (off + i) _ (hw i (by omega))]
    cases hg : mget K2 D (5, (i : Int)) with
    | none => exact he i (by omega) hg _ _ _ _ _ _ _
    | some x =>
      have ho := hD _ x hg
      have h6 : ¬ x.1 = 6 := fun e => by
        unfold ofR at ho; rw [if_pos e] at ho; have := congrArg Prod.fst ho; simp at this; omega
      unfold ofR at ho
      rw [if_neg h6] at ho
      have hk3 : x.1 = 5 := congrArg Prod.fst ho
      have hA : x.2.2.1 = (i : Int) := congrArg Prod.snd ho
      obtain ⟨ba', bb', bd', hn⟩ := note_member k ba bb Z bd M bf bg x hM (by omega) hk3 hA (by omega)
      simp only
      rw [hn, optb_some, show off + i + 1 = off + (i + 1) by omega]
      refine members_stage e0 e1 k D W hW off nz hz hw hD Q he Z hM bf bg j0 n (i + 1) ba' bb' _ bd' (by omega) (by rw [List.length_set]; exact hZ) (fun z hzi => ?_) hend
      by_cases e : z = i
      · subst e
        exact ⟨x, hg, List.getElem?_set_self (by omega)⟩
      · obtain ⟨y, h1, h2⟩ := hz' z (by omega)
        exact ⟨y, h1, by rw [List.getElem?_set_ne (fun e' => e e'.symm)]; exact h2⟩
/-! ### something twice -/
theorem nodup_of_steps : ∀ (s : List Int), s.Pairwise (fun a b => a ≤ b) → (∀ j a b, s[j]? = some a → s[j + 1]? = some b → a ≠ b) → s.Nodup
  | [], _, _ => List.nodup_nil
  | a :: t, hp, h => by
    rw [List.pairwise_cons] at hp
    have ih := nodup_of_steps t hp.2 (fun j x y h1 h2 => h (j + 1) x y (by simpa using h1) (by simpa using h2))
    refine List.nodup_cons.2 ⟨fun hm => ?_, ih⟩
    cases t with
    | nil => cases hm
    | cons b t =>
      have h1 := hp.1 b (List.mem_cons_self ..)
      rcases List.mem_cons.1 hm with e | e
      · exact h 0 a b rfl rfl e
      · have h2 := (List.pairwise_cons.1 hp.2).1 a e
        exact h 0 a b rfl rfl (by omega)
theorem twice_val (k : Nat) (nl : Bool) (l : List Int) (h : l.length ≤ 1000000) : (l.Nodup → book_twice k nl l = some false) ∧ (¬ l.Nodup → book_twice k nl l = some true) := by
  have hs : (Tw.sorted l).Pairwise (fun a b => a ≤ b) := by
    have := List.pairwise_mergeSort (le := fun x y : Int => decide (x ≤ y)) (fun a b c h1 h2 => by simp only [decide_eq_true_eq] at *; omega) (fun a b => by simp only [Bool.or_eq_true, decide_eq_true_eq]; omega) l
    exact this.imp fun h => by simpa using h
  have hn : (Tw.sorted l).Nodup ↔ l.Nodup := (List.mergeSort_perm l _).nodup_iff
  have hlen := Tw.sorted_len l
  unfold book_twice
  rw [decide_eq_true h, cond_true]
  generalize Tw.sorted l = s at hs hn hlen ⊢
  have key : (Lib.compact s).length < l.length ↔ ∃ j, j < s.length ∧ Lib.keeps s.toArray j = false := by
    unfold Lib.compact Lib.compactUpTo
    rw [List.length_map, ← hlen]
    have h1 := List.length_filter_lt_length_iff_exists (p := Lib.keeps s.toArray) (l := List.range s.length)
    rw [List.length_range] at h1
    rw [h1]
    constructor
    · rintro ⟨x, hx, hk⟩; exact ⟨x, List.mem_range.1 hx, by simpa using hk⟩
    · rintro ⟨x, hx, hk⟩; exact ⟨x, List.mem_range.2 hx, by simp [hk]⟩
  refine ⟨fun hd => ?_, fun hd => ?_⟩
  · congr 1
    refine decide_eq_false fun hlt => ?_
    obtain ⟨j, hj, hk⟩ := key.1 hlt
    unfold Lib.keeps at hk
    have hk := of_decide_eq_false hk
    have h0 : j ≠ 0 := fun e => hk (.inl e)
    have he : s.toArray[j]! = s.toArray[j - 1]! := Classical.byContradiction fun e => hk (.inr e)
    have h1 : s.toArray[j]! = s[j] := by simp [hj]
    have h2 : s.toArray[j - 1]! = s[j - 1] := by simp [show j - 1 < s.length by omega]
    rw [h1, h2] at he
    have := (List.nodup_iff_pairwise_ne.1 (hn.2 hd))
    rw [List.pairwise_iff_getElem] at this
    exact this (j - 1) j (by omega) hj (by omega) he.symm
  · congr 1
    refine decide_eq_true (key.2 ?_)
    refine Classical.byContradiction fun hc => hd (hn.1 (nodup_of_steps s hs fun j a b h1 h2 e => hc ⟨j + 1, ?_, ?_⟩))
    · exact (List.getElem?_eq_some_iff.1 h2).1
    · unfold Lib.keeps
      have hj1 := (List.getElem?_eq_some_iff.1 h1).1
      have hj2 := (List.getElem?_eq_some_iff.1 h2).1
      refine decide_eq_false fun hor => ?_
      rcases hor with h3 | h3
      · omega
      · refine h3 ?_
        rw [Nat.add_sub_cancel]
        have e1 : s.toArray[j + 1]! = b := by simp [hj2, (List.getElem?_eq_some_iff.1 h2).2]
        have e2 : s.toArray[j]! = a := by simp [hj1, (List.getElem?_eq_some_iff.1 h1).2]
        rw [e1, e2, e]
theorem max_loop {R : Type} (e0 : Int → Option R) (k : Nat) (M : List Int) (hM : M.length ≤ 1000) : ∀ (rest : List Int) (j i : Nat) (m : Int), M.drop i = rest → rest.length < j → i ≤ M.length → m ∈ M →
    ∃ m', m' ∈ M ∧ m ≤ m' ∧ (∀ x ∈ rest, x ≤ m') ∧ slices_Max_l0 e0 k M j m i = e0 m'
  | [], j, i, m, h, hj, hi, hm => by
    obtain ⟨j, rfl⟩ : ∃ u, j = u + 1 := ⟨j - 1, by omega⟩
    have := congrArg List.length h
    rw [List.length_drop, List.length_nil] at this
    refine ⟨m, hm, Int.le_refl _, (fun x hx => by cases hx), ?_⟩
    rw [slices_Max_l0]; unfold slices_Max_l0s
    rw [lenI_eq, decide_eq_false (by omega), cond_false]
  | x :: rest, j, i, m, h, hj, hi, hm => by
    obtain ⟨j, rfl⟩ : ∃ u, j = u + 1 := ⟨j - 1, by omega⟩
    obtain ⟨h1, h2, h3⟩ := drop_cons' h
    rw [List.length_cons] at hj
    have hx := List.mem_of_getElem? h1
    obtain ⟨m', g1, g2, g3, g4⟩ := max_loop e0 k M hM rest j (i + 1) (bif decide (x > m) then x else m) h3 (by omega) (by omega) (by cases decide (x > m) <;> assumption)
    refine ⟨m', g1, ?_, fun y hy => ?_, ?_⟩
    · by_cases c : x > m
      · rw [decide_eq_true c, cond_true] at g2; omega
      · rw [decide_eq_false c, cond_false] at g2; exact g2
    · rcases List.mem_cons.1 hy with rfl | hy
      · by_cases c : y > m
        · rw [decide_eq_true c, cond_true] at g2; exact g2
        · rw [decide_eq_false c, cond_false] at g2; omega
      · exact g3 y hy
    · rw [← g4]
      rw [slices_Max_l0]; unfold slices_Max_l0s
      rw [lenI_eq, decide_eq_true (show (i : Int) < M.length by omega), cond_true, decide_eq_true (show (0 : Int) ≤ i by omega), cond_true, Int.toNat_natCast, h1, optb_some, w64 (by omega) (by omega), show (i : Int) + 1 = ((i + 1 : Nat) : Int) by omega]
theorem max_val (k : Nat) (hk : 2000 ≤ k) (b : Bool) (M : List Int) (hM : M.length ≤ 1000) (h0 : 0 < M.length) : ∃ m, m ∈ M ∧ (∀ x ∈ M, x ≤ m) ∧ slices_Max k b M = some m := by
  cases M with
  | nil => simp at h0
  | cons a M =>
    obtain ⟨m, g1, g2, g3, g4⟩ := max_loop (fun m => some m) k (a :: M) hM M k 1 a rfl (by simp at hM; omega) (by simp) (List.mem_cons_self ..)
    refine ⟨m, g1, fun x hx => ?_, ?_⟩
    · rcases List.mem_cons.1 hx with rfl | hx
      · exact g2
      · exact g3 x hx
    · unfold slices_Max
      rw [lenI_eq, decide_eq_false (by simp; omega), cond_false]
      exact g4
/-! ### may there be such a book? -/
def okZ (gb : Int) (x : Zn) : Prop := 2 ≤ x.1 ∧ x.1 < gb ∧ x.2.2 ≤ 2
theorem can_l0 {R : Type} (e0 : Bool → List Int → Option R) (e1 : List Int → Option R) (k : Nat) (gb : Int) (Z : List Zn) (hZ : Z.length ≤ 1000) (r : Option R) (he : ∀ p, e0 false p = r) : ∀ (rest : List Zn) (j i : Nat) (p : List Int), Z.drop i = rest → rest.length < j → i ≤ Z.length → p.length = i →
    ((∀ x ∈ rest, okZ gb x) → book_Book_can_l0 e0 e1 k Z (lenI Z) gb j i p = e1 (p ++ rest.map (·.1))) ∧ (¬ (∀ x ∈ rest, okZ gb x) → book_Book_can_l0 e0 e1 k Z (lenI Z) gb j i p = r)
  | [], j, i, p, h, hj, hi, hp => by
    obtain ⟨j, rfl⟩ : ∃ u, j = u + 1 := ⟨j - 1, by omega⟩
    have := congrArg List.length h
    rw [List.length_drop, List.length_nil] at this
    refine ⟨fun _ => ?_, fun hn => absurd (fun x hx => by cases hx) hn⟩
    rw [book_Book_can_l0]; unfold book_Book_can_l0s
    rw [lenI_eq, decide_eq_false (by omega), cond_false, List.map_nil, List.append_nil]
  | x :: rest, j, i, p, h, hj, hi, hp => by
    obtain ⟨j, rfl⟩ : ∃ u, j = u + 1 := ⟨j - 1, by omega⟩
    obtain ⟨h1, h2, h3⟩ := drop_cons' h
    rw [List.length_cons] at hj
    obtain ⟨g1, g2⟩ := can_l0 e0 e1 k gb Z hZ r he rest j (i + 1) (p ++ [x.1]) h3 (by omega) (by omega) (by rw [List.length_append, List.length_singleton, hp])
    have hl : lenI Z = (Z.length : Int) := lenI_eq Z
    have step : (okZ gb x → book_Book_can_l0 e0 e1 k Z (lenI Z) gb (j + 1) i p = book_Book_can_l0 e0 e1 k Z (lenI Z) gb j ((i + 1 : Nat) : Int) (p ++ [x.1])) ∧ (¬ okZ gb x → book_Book_can_l0 e0 e1 k Z (lenI Z) gb (j + 1) i p = r) := by
      rw [book_Book_can_l0]; unfold book_Book_can_l0s
      rw [hl, decide_eq_true (show (i : Int) < Z.length by omega), cond_true, decide_eq_true (show (0 : Int) ≤ i by omega), cond_true, Int.toNat_natCast, h1, optb_some]
      unfold okZ
      by_cases c1 : x.1 < 2
      · rw [decide_eq_true c1, cond_true]
        unfold book_Book_can_j1 book_Book_can_k0
        rw [cond_true]
        exact ⟨fun e => by omega, fun _ => he _⟩
      · rw [decide_eq_false c1, cond_false]
        by_cases c2 : gb ≤ x.1
        · rw [decide_eq_true c2, cond_true]
          unfold book_Book_can_j1 book_Book_can_k0
          rw [cond_true]
          exact ⟨fun e => by omega, fun _ => he _⟩
        · rw [decide_eq_false c2, cond_false]
          unfold book_Book_can_j1 book_Book_can_k0
          by_cases c3 : 2 < x.2.2
          · rw [decide_eq_true c3, cond_true]
            exact ⟨fun e => by omega, fun _ => he _⟩
          · rw [decide_eq_false c3, cond_false]
            unfold book_Book_can_k1
            rw [decide_eq_true (by rw [List.length_singleton]; omega), cond_true, w64 (by omega) (by omega), show (i : Int) + 1 = ((i + 1 : Nat) : Int) by omega]
            exact ⟨fun _ => rfl, fun e => absurd ⟨by omega, by omega, by omega⟩ e⟩
    constructor
    · intro hall
      rw [step.1 (hall x (List.mem_cons_self ..)), g1 (fun y hy => hall y (List.mem_cons_of_mem _ hy)), List.append_assoc]; rfl
    · intro hn
      by_cases hx : okZ gb x
      · rw [step.1 hx]
        exact g2 fun hr => hn fun y hy => by
          rcases List.mem_cons.1 hy with rfl | hy
          · exact hx
          · exact hr y hy
      · exact step.2 hx
def CanP (ga gb : Int) (Z : List Zn) (M : List Int) (bf bg : Int) : Prop := (∀ x ∈ Z, okZ gb x) ∧ (Z.map (·.1)).Nodup ∧ M.Nodup ∧ (∀ x ∈ M, x ≤ ga) ∧ bf < ga ∧ bg ≤ gb
theorem can_val (k : Nat) (hk : 2000 ≤ k) (ba : Int) (bb : Bool) (Z : List Zn) (bd : Bool) (M : List Int) (bf bg ga gb gc gd ge : Int) (hZ : Z.length ≤ 1000) (hM : M.length ≤ 1000) (h0 : 0 < M.length) :
    (CanP ga gb Z M bf bg → book_Book_can k ba bb Z bd M bf bg ga gb gc gd ge = some true) ∧ (¬ CanP ga gb Z M bf bg → book_Book_can k ba bb Z bd M bf bg ga gb gc gd ge = some false) := by
  obtain ⟨g1, g2⟩ := can_l0 (fun v _ => some v) (fun phys_41 => book_Book_can_j2 (fun v_42 => some v_42) k bd M bf bg ga gb true phys_41) k gb Z hZ (some false) (fun _ => rfl) Z k 0 [] List.drop_zero (by omega) (by omega) rfl
  unfold CanP
  by_cases c1 : ∀ x ∈ Z, okZ gb x
  · have e : book_Book_can k ba bb Z bd M bf bg ga gb gc gd ge = book_Book_can_j2 (fun v_42 => some v_42) k bd M bf bg ga gb true (Z.map (·.1)) := by
      unfold book_Book_can; exact g1 c1
    rw [e]
    unfold book_Book_can_j2
    obtain ⟨t1, t2⟩ := twice_val k true (Z.map (·.1)) (by rw [List.length_map]; omega)
    by_cases c2 : (Z.map (·.1)).Nodup
    · rw [t1 c2, optb_some, cond_false]
      obtain ⟨t3, t4⟩ := twice_val k bd M (by omega)
      by_cases c3 : M.Nodup
      · rw [t3 c3, optb_some, cond_false]
        obtain ⟨m, m1, m2, m3⟩ := max_val k hk bd M hM h0
        rw [m3, optb_some]
        unfold book_Book_can_j3 book_Book_can_k2 book_Book_can_k3
        by_cases c4 : ga < m
        · rw [decide_eq_true c4, cond_true]
          exact ⟨fun h => by have := h.2.2.2.1 m m1; omega, fun _ => rfl⟩
        · rw [decide_eq_false c4, cond_false]
          by_cases c5 : bf < ga
          · rw [decide_eq_true c5, cond_true]
            exact ⟨fun h => by rw [decide_eq_true h.2.2.2.2.2], fun h => by rw [decide_eq_false fun c6 => h ⟨c1, c2, c3, fun x hx => by have := m2 x hx; omega, c5, c6⟩]⟩
          · rw [decide_eq_false c5, cond_false]
            exact ⟨fun h => absurd h.2.2.2.2.1 c5, fun _ => rfl⟩
      · rw [t4 c3, optb_some, cond_true]
        unfold book_Book_can_j3 book_Book_can_k2
        exact ⟨fun h => absurd h.2.2.1 c3, fun _ => rfl⟩
    · rw [t2 c2, optb_some, cond_true]
      unfold book_Book_can_j3 book_Book_can_k2
      exact ⟨fun h => absurd h.2.1 c2, fun _ => rfl⟩
  · have e : book_Book_can k ba bb Z bd M bf bg ga gb gc gd ge = some false := by
      unfold book_Book_can; exact g2 c1
    rw [e]
    exact ⟨fun h => absurd h.1 c1, fun _ => rfl⟩
/-! ### the document's look at it -/
theorem nodup_lt {α : Type} [DecidableEq α] (l : List α) : l.Nodup ↔ ∀ t, t < l.length → ∀ y, y < t → l[y]? ≠ l[t]? := by
  rw [List.nodup_iff_pairwise_ne, List.pairwise_iff_getElem]
  constructor
  · intro h t ht y hy e
    rw [List.getElem?_eq_getElem ht, List.getElem?_eq_getElem (by omega)] at e
    exact h y t (by omega) ht hy (Option.some.inj e)
  · intro h i j hi hj hij e
    exact h j hj i hij (by rw [List.getElem?_eq_getElem hi, List.getElem?_eq_getElem hj, e])
theorem r5_loop {R : Type} (e0 : Int → Int → Int → Int → Option R) (e1 : Option R) (k : Nat) (Z : List Zn) (hZ : Z.length ≤ 1000) (z : Nat) (hz : z < Z.length) (r : Option R) (he : e0 9 0 0 0 = r) : ∀ (n j y : Nat), y + n = z → n < j →
    ((∀ u, y ≤ u → u < z → (Z.map (·.1))[u]? ≠ (Z.map (·.1))[z]?) → corbelref10_Read_l5 e0 e1 k z Z j y = e1) ∧ (¬ (∀ u, y ≤ u → u < z → (Z.map (·.1))[u]? ≠ (Z.map (·.1))[z]?) → corbelref10_Read_l5 e0 e1 k z Z j y = r)
  | 0, j, y, h, hj => by
    obtain ⟨j, rfl⟩ : ∃ u, j = u + 1 := ⟨j - 1, by omega⟩
    refine ⟨fun _ => ?_, fun hn => absurd (fun u h1 h2 => by omega) hn⟩
    rw [corbelref10_Read_l5]; unfold corbelref10_Read_l5s
    rw [decide_eq_false (by omega), cond_false]
  | n + 1, j, y, h, hj => by
    obtain ⟨j, rfl⟩ : ∃ u, j = u + 1 := ⟨j - 1, by omega⟩
    obtain ⟨g1, g2⟩ := r5_loop e0 e1 k Z hZ z hz r he n j (y + 1) (by omega) (by omega)
    have hy : y < Z.length := by omega
    have hm : ∀ u (hu : u < Z.length), (Z.map (·.1))[u]? = some (Z[u]).1 := fun u hu => by rw [List.getElem?_map, List.getElem?_eq_getElem hu]; rfl
    rw [corbelref10_Read_l5]; unfold corbelref10_Read_l5s
    rw [decide_eq_true (show (y : Int) < z by omega), cond_true, lenI_eq, decide_eq_true (show (0 : Int) ≤ y by omega), decide_eq_true (show (y : Int) < Z.length by omega), Bool.and_self, cond_true, Int.toNat_natCast, List.getElem?_eq_getElem hy, optb_some, decide_eq_true (show (0 : Int) ≤ z by omega), decide_eq_true (show (z : Int) < Z.length by omega), Bool.and_self, cond_true, Int.toNat_natCast, List.getElem?_eq_getElem hz, optb_some]
    by_cases c : (Z[y]).1 = (Z[z]).1
    · rw [decide_eq_true c, cond_true]
      exact ⟨fun hall => absurd (by rw [hm y hy, hm z hz, c]) (hall y (Nat.le_refl _) (by omega)), fun _ => he⟩
    · rw [decide_eq_false c, cond_false, w64 (by omega) (by omega), show (y : Int) + 1 = ((y + 1 : Nat) : Int) by omega]
      refine ⟨fun hall => g1 fun u h1 h2 => hall u (by omega) h2, fun hn => g2 fun hall => hn fun u h1 h2 => ?_⟩
      by_cases e : u = y
      · subst e; rw [hm u hy, hm z hz]; exact fun e' => c (Option.some.inj e')
      · exact hall u (by omega) h2
theorem r3_loop {R : Type} (e0 : Int → Int → Int → Int → Option R) (e1 : Option R) (k : Nat) (hk : 2000 ≤ k) (gb : Int) (Z : List Zn) (hZ : Z.length ≤ 1000) (r : Option R) (he : e0 9 0 0 0 = r) : ∀ (n j z : Nat), z + n = Z.length → n < j →
    ((∀ t, z ≤ t → t < Z.length → (∀ x, Z[t]? = some x → okZ gb x) ∧ ∀ u, u < t → (Z.map (·.1))[u]? ≠ (Z.map (·.1))[t]?) → corbelref10_Read_l3 e0 e1 k gb Z j z = e1) ∧
    (¬ (∀ t, z ≤ t → t < Z.length → (∀ x, Z[t]? = some x → okZ gb x) ∧ ∀ u, u < t → (Z.map (·.1))[u]? ≠ (Z.map (·.1))[t]?) → corbelref10_Read_l3 e0 e1 k gb Z j z = r)
  | 0, j, z, h, hj => by
    obtain ⟨j, rfl⟩ : ∃ u, j = u + 1 := ⟨j - 1, by omega⟩
    refine ⟨fun _ => ?_, fun hn => absurd (fun t h1 h2 => by omega) hn⟩
    rw [corbelref10_Read_l3]; unfold corbelref10_Read_l3s
    rw [lenI_eq, decide_eq_false (by omega), cond_false]
  | n + 1, j, z, h, hj => by
    obtain ⟨j, rfl⟩ : ∃ u, j = u + 1 := ⟨j - 1, by omega⟩
    obtain ⟨g1, g2⟩ := r3_loop e0 e1 k hk gb Z hZ r he n j (z + 1) (by omega) (by omega)
    have hz : z < Z.length := by omega
    have ez : Z[z]? = some Z[z] := List.getElem?_eq_getElem hz
    have hbad : ¬ okZ gb Z[z] → ¬ (∀ t, z ≤ t → t < Z.length → (∀ x, Z[t]? = some x → okZ gb x) ∧ ∀ u, u < t → (Z.map (·.1))[u]? ≠ (Z.map (·.1))[t]?) := fun hn hall => hn ((hall z (Nat.le_refl _) hz).1 _ ez)
    rw [corbelref10_Read_l3]; unfold corbelref10_Read_l3s
    rw [lenI_eq, decide_eq_true (show (z : Int) < Z.length by omega), cond_true, decide_eq_true (show (0 : Int) ≤ z by omega), Bool.and_self, cond_true, Int.toNat_natCast, ez, optb_some]
    by_cases c1 : (Z[z]).1 < 2
    · rw [decide_eq_true c1, cond_true]
      unfold corbelref10_Read_j4 corbelref10_Read_k0
      rw [cond_true]
      exact ⟨fun hall => absurd hall (hbad fun o => by unfold okZ at o; omega), fun _ => he⟩
    rw [decide_eq_false c1, cond_false, cond_true, optb_some]
    by_cases c2 : gb ≤ (Z[z]).1
    · rw [decide_eq_true c2, cond_true]
      unfold corbelref10_Read_j4 corbelref10_Read_k0
      rw [cond_true]
      exact ⟨fun hall => absurd hall (hbad fun o => by unfold okZ at o; omega), fun _ => he⟩
    rw [decide_eq_false c2, cond_false, cond_true, optb_some]
    unfold corbelref10_Read_j4 corbelref10_Read_k0
    by_cases c3 : 2 < (Z[z]).2.2
    · rw [decide_eq_true c3, cond_true]
      exact ⟨fun hall => absurd hall (hbad fun o => by unfold okZ at o; omega), fun _ => he⟩
    rw [decide_eq_false c3, cond_false]
    unfold corbelref10_Read_k1
    have e1' : wrap64 ((z : Int) + 1) = ((z + 1 : Nat) : Int) := w64 (by omega) (by omega)
    obtain ⟨f1, f2⟩ := r5_loop (fun v_24 va_25 vb_26 vc_27 => e0 v_24 va_25 vb_26 vc_27) (corbelref10_Read_l3 e0 e1 k gb Z j (wrap64 ((z : Int) + 1))) k Z hZ z hz r he z k 0 (by omega) (by omega)
    by_cases c4 : ∀ u, 0 ≤ u → u < z → (Z.map (·.1))[u]? ≠ (Z.map (·.1))[z]?
    · have f1 := f1 c4
      refine ⟨fun hall => (show _ = _ from f1).trans ?_, fun hn => (show _ = _ from f1).trans ?_⟩
      · rw [e1']; exact g1 fun t h1 h2 => hall t (by omega) h2
      · rw [e1']
        refine g2 fun hall => hn fun t h1 h2 => ?_
        by_cases e : t = z
        · subst e
          exact ⟨fun x hx => by rw [ez] at hx; cases hx; exact ⟨by omega, by omega, by omega⟩, fun u hu => c4 u (Nat.zero_le _) hu⟩
        · exact hall t (by omega) h2
    · exact ⟨fun hall => absurd (fun u _ hu => (hall z (Nat.le_refl _) hz).2 u hu) c4, fun _ => f2 c4⟩
theorem r7_loop {R : Type} (e0 : Int → Int → Int → Int → Option R) (e1 : Option R) (k : Nat) (M : List Int) (hM : M.length ≤ 1000) (s : Nat) (hs : s < M.length) (r : Option R) (he : e0 9 0 0 0 = r) : ∀ (n j t : Nat), t + n = s → n < j →
    ((∀ u, t ≤ u → u < s → M[u]? ≠ M[s]?) → corbelref10_Read_l7 e0 e1 k s M j t = e1) ∧ (¬ (∀ u, t ≤ u → u < s → M[u]? ≠ M[s]?) → corbelref10_Read_l7 e0 e1 k s M j t = r)
  | 0, j, t, h, hj => by
    obtain ⟨j, rfl⟩ : ∃ u, j = u + 1 := ⟨j - 1, by omega⟩
    refine ⟨fun _ => ?_, fun hn => absurd (fun u h1 h2 => by omega) hn⟩
    rw [corbelref10_Read_l7]; unfold corbelref10_Read_l7s
    rw [decide_eq_false (by omega), cond_false]
  | n + 1, j, t, h, hj => by
    obtain ⟨j, rfl⟩ : ∃ u, j = u + 1 := ⟨j - 1, by omega⟩
    obtain ⟨g1, g2⟩ := r7_loop e0 e1 k M hM s hs r he n j (t + 1) (by omega) (by omega)
    have ht : t < M.length := by omega
    rw [corbelref10_Read_l7]; unfold corbelref10_Read_l7s
    rw [decide_eq_true (show (t : Int) < s by omega), cond_true, lenI_eq, decide_eq_true (show (0 : Int) ≤ t by omega), decide_eq_true (show (t : Int) < M.length by omega), Bool.and_self, cond_true, Int.toNat_natCast, List.getElem?_eq_getElem ht, optb_some, decide_eq_true (show (0 : Int) ≤ s by omega), decide_eq_true (show (s : Int) < M.length by omega), Bool.and_self, cond_true, Int.toNat_natCast, List.getElem?_eq_getElem hs, optb_some]
    by_cases c : M[t] = M[s]
    · rw [decide_eq_true c, cond_true]
      exact ⟨fun hall => absurd (by rw [List.getElem?_eq_getElem ht, c]) (hall t (Nat.le_refl _) (by omega)), fun _ => he⟩
    · rw [decide_eq_false c, cond_false, w64 (by omega) (by omega), show (t : Int) + 1 = ((t + 1 : Nat) : Int) by omega]
      rw [List.getElem?_eq_getElem hs] at g1 g2
      refine ⟨fun hall => g1 fun u h1 h2 => hall u (by omega) h2, fun hn => g2 fun hall => hn fun u h1 h2 => ?_⟩
      by_cases e : u = t
      · subst e; rw [List.getElem?_eq_getElem ht]; exact fun e' => c (Option.some.inj e')
      · exact hall u (by omega) h2
theorem r6_loop {R : Type} (e0 : Int → Int → Int → Int → Option R) (e1 : Option R) (k : Nat) (hk : 2000 ≤ k) (M : List Int) (hM : M.length ≤ 1000) (ga : Int) (hga : ga = M.length) (r : Option R) (he : e0 9 0 0 0 = r) : ∀ (n j s : Nat), s + n = M.length → n < j →
    ((∀ t, s ≤ t → t < M.length → (∀ x, M[t]? = some x → x ≤ ga) ∧ ∀ u, u < t → M[u]? ≠ M[t]?) → corbelref10_Read_l6 e0 e1 k ga M j s = e1) ∧
    (¬ (∀ t, s ≤ t → t < M.length → (∀ x, M[t]? = some x → x ≤ ga) ∧ ∀ u, u < t → M[u]? ≠ M[t]?) → corbelref10_Read_l6 e0 e1 k ga M j s = r)
  | 0, j, s, h, hj => by
    obtain ⟨j, rfl⟩ : ∃ u, j = u + 1 := ⟨j - 1, by omega⟩
    refine ⟨fun _ => ?_, fun hn => absurd (fun t h1 h2 => by omega) hn⟩
    rw [corbelref10_Read_l6]; unfold corbelref10_Read_l6s
    rw [decide_eq_false (by omega), cond_false]
  | n + 1, j, s, h, hj => by
    obtain ⟨j, rfl⟩ : ∃ u, j = u + 1 := ⟨j - 1, by omega⟩
    obtain ⟨g1, g2⟩ := r6_loop e0 e1 k hk M hM ga hga r he n j (s + 1) (by omega) (by omega)
    have hs : s < M.length := by omega
    have es : M[s]? = some M[s] := List.getElem?_eq_getElem hs
    have e1' : wrap64 ((s : Int) + 1) = ((s + 1 : Nat) : Int) := w64 (by omega) (by omega)
    obtain ⟨f1, f2⟩ := r7_loop (fun v_41 va_42 vb_43 vc_44 => e0 v_41 va_42 vb_43 vc_44) (corbelref10_Read_l6 e0 e1 k ga M j (wrap64 ((s : Int) + 1))) k M hM s hs r he s k 0 (by omega) (by omega)
    rw [corbelref10_Read_l6]; unfold corbelref10_Read_l6s
    rw [decide_eq_true (show (s : Int) < ga by omega), cond_true, lenI_eq, decide_eq_true (show (0 : Int) ≤ s by omega), decide_eq_true (show (s : Int) < M.length by omega), Bool.and_self, cond_true, Int.toNat_natCast, es, optb_some]
    by_cases c1 : ga < M[s]
    · rw [decide_eq_true c1, cond_true]
      exact ⟨fun hall => by have := (hall s (Nat.le_refl _) hs).1 _ es; omega, fun _ => he⟩
    rw [decide_eq_false c1, cond_false]
    by_cases c4 : ∀ u, 0 ≤ u → u < s → M[u]? ≠ M[s]?
    · have f1 := f1 c4
      refine ⟨fun hall => (show _ = _ from f1).trans ?_, fun hn => (show _ = _ from f1).trans ?_⟩
      · rw [e1']; exact g1 fun t h1 h2 => hall t (by omega) h2
      · rw [e1']
        refine g2 fun hall => hn fun t h1 h2 => ?_
        by_cases e : t = s
        · subst e
          exact ⟨fun x hx => by rw [es] at hx; cases hx; omega, fun u hu => c4 u (Nat.zero_le _) hu⟩
        · exact hall t (by omega) h2
    · exact ⟨fun hall => absurd (fun u _ hu => (hall s (Nat.le_refl _) hs).2 u hu) c4, fun _ => f2 c4⟩
theorem r11_loop {R : Type} (e0 : Int → Option R) (k : Nat) (L : List Lst) (i : Nat) (q : Lst) (hq : L[i]? = some q) (hl : q.2.length ≤ 1000000) : ∀ (rest : List Rec) (j t : Nat) (m : Int), q.2.drop t = rest → rest.length < j → t ≤ q.2.length →
    corbelref10_Read_l11 e0 k L i j t m = e0 (mxs rest m)
  | [], j, t, m, h, hj, ht => by
    obtain ⟨j, rfl⟩ : ∃ u, j = u + 1 := ⟨j - 1, by omega⟩
    have := congrArg List.length h
    rw [List.length_drop, List.length_nil] at this
    rw [corbelref10_Read_l11]; unfold corbelref10_Read_l11s
    rw [decide_eq_true (show (0 : Int) ≤ i by omega), cond_true, Int.toNat_natCast, hq, optb_some, lenI_eq, decide_eq_false (show ¬ (t : Int) < q.2.length by omega), cond_false]; rfl
  | x :: rest, j, t, m, h, hj, ht => by
    obtain ⟨j, rfl⟩ : ∃ u, j = u + 1 := ⟨j - 1, by omega⟩
    obtain ⟨h1, h2, h3⟩ := drop_cons' h
    rw [List.length_cons] at hj
    have ih := r11_loop e0 k L i q hq hl rest j (t + 1) (bif decide (x.2.1 > m) then x.2.1 else m) h3 (by omega) (by omega)
    show _ = e0 (mxs rest (bif decide (x.2.1 > m) then x.2.1 else m))
    rw [← ih]
    rw [corbelref10_Read_l11]; unfold corbelref10_Read_l11s
    rw [decide_eq_true (show (0 : Int) ≤ i by omega), cond_true, Int.toNat_natCast, hq, optb_some, lenI_eq, decide_eq_true (show (t : Int) < q.2.length by omega), cond_true, cond_true, optb_some, decide_eq_true (show (0 : Int) ≤ t by omega), cond_true, Int.toNat_natCast, h1, optb_some]
    unfold corbelref10_Read_j12 corbelref10_Read_k4
    rw [w64 (n := (t : Int) + 1) (by omega) (by omega), show (t : Int) + 1 = ((t + 1 : Nat) : Int) by omega]
    by_cases c : m < x.2.1
    · rw [decide_eq_true c, cond_true, cond_true, cond_true, optb_some, cond_true, h1, optb_some]
    · rw [decide_eq_false c, cond_false, cond_false]
theorem r10_loop {R : Type} (e0 : Int → Option R) (k : Nat) (hk : 1000 ≤ k) (L : List Lst) (hL : L.length ≤ 100 ∧ ∀ q ∈ L, q.2.length ≤ 900) : ∀ (rest : List Lst) (j i : Nat) (m : Int), L.drop i = rest → rest.length < j → i ≤ L.length →
    corbelref10_Read_l10 e0 k L j i m = e0 (mxl rest m)
  | [], j, i, m, h, hj, hi => by
    obtain ⟨j, rfl⟩ : ∃ u, j = u + 1 := ⟨j - 1, by omega⟩
    have := congrArg List.length h
    rw [List.length_drop, List.length_nil] at this
    rw [corbelref10_Read_l10]; unfold corbelref10_Read_l10s
    rw [lenI_eq, decide_eq_false (by omega), cond_false]; rfl
  | q :: rest, j, i, m, h, hj, hi => by
    obtain ⟨j, rfl⟩ : ∃ u, j = u + 1 := ⟨j - 1, by omega⟩
    obtain ⟨h1, h2, h3⟩ := drop_cons' h
    rw [List.length_cons] at hj
    have hq := hL.2 q (List.mem_of_getElem? h1)
    have ih := r10_loop e0 k hk L hL rest j (i + 1) (mxs q.2 m) h3 (by omega) (by omega)
    show _ = e0 (mxl rest (mxs q.2 m))
    rw [← ih]
    rw [corbelref10_Read_l10]; unfold corbelref10_Read_l10s
    rw [lenI_eq, decide_eq_true (show (i : Int) < L.length by omega), cond_true]
    refine Eq.trans (r11_loop _ k L i q h1 (by omega) q.2 k 0 m List.drop_zero (by omega) (by omega)) ?_
    rw [w64 (by omega) (by omega), show (i : Int) + 1 = ((i + 1 : Nat) : Int) by omega]
/-! ### what the lists tell -/
def zO (L : List Lst) (z : Nat) : Option Rec := nwl (pk 3 z) L none
def mO (L : List Lst) (z : Nat) : Option Rec := nwl (pk 5 z) L none
def cO (L : List Lst) : Option Rec := nwl (pk 6 (-1)) L none
def zL (L : List Lst) (n : Nat) : List Zn := (List.range n).map fun z => znOf ((zO L z).getD Z7)
def mL (L : List Lst) (n : Nat) : List Int := (List.range n).map fun z => ((mO L z).getD Z7).2.2.2.1
theorem rz_loop {R : Type} (e0 : Int → Int → Int → Int → List Zn → Option R) (e1 : List Zn → Option R) (k : Nat) (hk : 1000 ≤ k) (b : Bool) (L : List Lst) (hL : L.length ≤ 100 ∧ ∀ q ∈ L, q.2.length ≤ 900) (gb : Int) (nz : Nat) (hg : gb = nz + 3) (hn : nz ≤ 1000) (r : Option R) (he : ∀ b, e0 9 0 0 0 b = r) : ∀ (n j i : Nat), i + n = nz → n < j →
    ((∀ z, i ≤ z → z < nz → (zO L z).isSome = true) → corbelref10_Read_l0 e0 e1 k b L gb j i (zL L i) = e1 (zL L nz)) ∧
    (¬ (∀ z, i ≤ z → z < nz → (zO L z).isSome = true) → corbelref10_Read_l0 e0 e1 k b L gb j i (zL L i) = r)
  | 0, j, i, h, hj => by
    obtain ⟨j, rfl⟩ : ∃ u, j = u + 1 := ⟨j - 1, by omega⟩
    refine ⟨fun _ => ?_, fun hn => absurd (fun t h1 h2 => by omega) hn⟩
    rw [corbelref10_Read_l0]; unfold corbelref10_Read_l0s
    rw [w64 (n := gb - 3) (by omega) (by omega), decide_eq_false (by omega), cond_false, show i = nz by omega]
  | n + 1, j, i, h, hj => by
    obtain ⟨j, rfl⟩ : ∃ u, j = u + 1 := ⟨j - 1, by omega⟩
    obtain ⟨g1, g2⟩ := rz_loop e0 e1 k hk b L hL gb nz hg hn r he n j (i + 1) (by omega) (by omega)
    rw [corbelref10_Read_l0]; unfold corbelref10_Read_l0s
    rw [w64 (n := gb - 3) (by omega) (by omega), decide_eq_true (show (i : Int) < gb - 3 by omega), cond_true, find_val k hk b hL 3 i, optb_some]
    show (_ → (bif !((zO L i).isSome) then _ else _) = _) ∧ (_ → (bif !((zO L i).isSome) then _ else _) = _)
    cases hi : (zO L i).isSome with
    | false =>
      rw [Bool.not_false, cond_true]
      exact ⟨fun hall => absurd (hall i (Nat.le_refl _) (by omega)) (by rw [hi]; exact Bool.false_ne_true), fun _ => he _⟩
    | true =>
      have hzl : zL L (i + 1) = zL L i ++ [znOf ((zO L i).getD Z7)] := by unfold zL; rw [List.range_succ, List.map_append]; rfl
      rw [Bool.not_true, cond_false, decide_eq_true (by unfold zL; rw [List.length_singleton, List.length_map, List.length_range]; omega), cond_true, w64 (n := (i : Int) + 1) (by omega) (by omega), show (i : Int) + 1 = ((i + 1 : Nat) : Int) by omega]
      rw [hzl] at g1 g2
      refine ⟨fun hall => g1 fun z h1 h2 => hall z (by omega) h2, fun hn => g2 fun hall => hn fun z h1 h2 => ?_⟩
      by_cases e : z = i
      · rw [e]; exact hi
      · exact hall z (by omega) h2
theorem rm_loop {R : Type} (e0 : Int → Int → Int → Int → List Int → Option R) (e1 : List Int → Option R) (k : Nat) (hk : 1000 ≤ k) (b : Bool) (L : List Lst) (hL : L.length ≤ 100 ∧ ∀ q ∈ L, q.2.length ≤ 900) (ga : Int) (nz : Nat) (hg : ga = nz) (hn : nz ≤ 1000) (r : Option R) (he : ∀ b, e0 9 0 0 0 b = r) : ∀ (n j i : Nat), i + n = nz → n < j →
    ((∀ z, i ≤ z → z < nz → (mO L z).isSome = true) → corbelref10_Read_l1 e0 e1 k b L ga j i (mL L i) = e1 (mL L nz)) ∧
    (¬ (∀ z, i ≤ z → z < nz → (mO L z).isSome = true) → corbelref10_Read_l1 e0 e1 k b L ga j i (mL L i) = r)
  | 0, j, i, h, hj => by
    obtain ⟨j, rfl⟩ : ∃ u, j = u + 1 := ⟨j - 1, by omega⟩
    refine ⟨fun _ => ?_, fun hn => absurd (fun t h1 h2 => by omega) hn⟩
    rw [corbelref10_Read_l1]; unfold corbelref10_Read_l1s
    rw [decide_eq_false (by omega), cond_false, show i = nz by omega]
  | n + 1, j, i, h, hj => by
    obtain ⟨j, rfl⟩ : ∃ u, j = u + 1 := ⟨j - 1, by omega⟩
    obtain ⟨g1, g2⟩ := rm_loop e0 e1 k hk b L hL ga nz hg hn r he n j (i + 1) (by omega) (by omega)
    rw [corbelref10_Read_l1]; unfold corbelref10_Read_l1s
    rw [decide_eq_true (show (i : Int) < ga by omega), cond_true, find_val k hk b hL 5 i, optb_some]
    show (_ → (bif !((mO L i).isSome) then _ else _) = _) ∧ (_ → (bif !((mO L i).isSome) then _ else _) = _)
    cases hi : (mO L i).isSome with
    | false =>
      rw [Bool.not_false, cond_true]
      exact ⟨fun hall => absurd (hall i (Nat.le_refl _) (by omega)) (by rw [hi]; exact Bool.false_ne_true), fun _ => he _⟩
    | true =>
      have hzl : mL L (i + 1) = mL L i ++ [((mO L i).getD Z7).2.2.2.1] := by unfold mL; rw [List.range_succ, List.map_append]; rfl
      rw [Bool.not_true, cond_false, decide_eq_true (by unfold mL; rw [List.length_singleton, List.length_map, List.length_range]; omega), cond_true, w64 (n := (i : Int) + 1) (by omega) (by omega), show (i : Int) + 1 = ((i + 1 : Nat) : Int) by omega]
      rw [hzl] at g1 g2
      refine ⟨fun hall => g1 fun z h1 h2 => hall z (by omega) h2, fun hn => g2 fun hall => hn fun z h1 h2 => ?_⟩
      by_cases e : z = i
      · rw [e]; exact hi
      · exact hall z (by omega) h2
abbrev Bk := Int × ((Bool × List Zn) × ((Bool × List Int) × (Int × Int)))
def zero9 : Bk × Int := ((0, ((true, []), ((true, []), (0, 0)))), 9)
/-- What the lists must hold, and the book that they make. -/
def Present (L : List Lst) (nz ga : Nat) : Prop := (cO L).isSome = true ∧ (∀ z, z < nz → (zO L z).isSome = true) ∧ ∀ z, z < ga → (mO L z).isSome = true
def cA (L : List Lst) : Int := ((cO L).getD Z7).2.2.1
def cB (L : List Lst) : Int := ((cO L).getD Z7).2.2.2.1
def slot (L : List Lst) : Int := if cA L = 65535 then -1 else cA L
def Goes (L : List Lst) (nz ga : Nat) (gaI gbI : Int) : Prop := Present L nz ga ∧ CanP gaI gbI (zL L nz) (mL L ga) (slot L) (cB L) ∧ (cA L = 65535 → cB L = 0)
def bookN (L : List Lst) (nz ga : Nat) (b c : Bool) : Bk × Int := ((mxl L 0, ((b, zL L nz), ((c, mL L ga), (slot L, cB L)))), 0)
theorem zL_len (L : List Lst) (n : Nat) : (zL L n).length = n := by unfold zL; rw [List.length_map, List.length_range]
theorem mL_len (L : List Lst) (n : Nat) : (mL L n).length = n := by unfold mL; rw [List.length_map, List.length_range]
theorem bounds (L : List Lst) (hL : FineLL L) : (L.length ≤ 100 ∧ ∀ q ∈ L, q.2.length ≤ 900) := ⟨by have := hL.1; omega, fun q hq => by have := (hL.2 q hq).1; omega⟩
theorem c_fine (L : List Lst) (hL : FineLL L) : 0 ≤ cA L ∧ cA L ≤ 65535 := by
  unfold cA
  cases h : cO L with
  | none => exact ⟨by decide, by decide⟩
  | some x =>
    have := nwl_mem (pk 6 (-1)) Fine L (fun q hq y hy => (hL.2 q hq).2 y hy) none (fun y hy => by cases hy) x h
    exact this.2.2.1
theorem ref_val (k : Nat) (hk : 3000 ≤ k) (a0 a1 a2 a3 a4 : Int) (hG : GG a0 a1 a2 a3 a4) (nz ga : Nat) (hz : a1 = nz + 3) (hga : a0 = ga) (b : Bool) (L : List Lst) (hL : FineLL L) :
    (Goes L nz ga a0 a1 → corbelref10_Read k a0 a1 a2 a3 a4 b L = some (bookN L nz ga true true)) ∧ (¬ Goes L nz ga a0 a1 → corbelref10_Read k a0 a1 a2 a3 a4 b L = some zero9) := by
  have hb := bounds L hL
  have hGG := hG
  unfold GG at hGG
  have hcf := c_fine L hL
  unfold corbelref10_Read
  rw [refgood_val, optb_some, decide_eq_true hG, Bool.not_true, cond_false]
  unfold Goes Present
  generalize hE1 : (fun b_94 : List Zn => corbelref10_Read_l1 _ _ k b L a0 k (0 : Int) ([] : List Int)) = E1
  obtain ⟨z1, z2⟩ := rz_loop (fun v_111 va_112 vb_113 vc_114 b_115 => some ((va_112, ((true, ([] : List (Int × (Int × Int)))), ((true, ([] : List Int)), (vb_113, vc_114)))), v_111)) E1 k (by omega) b L hb a1 nz hz (by omega) (some zero9) (fun _ => rfl) nz k 0 (by omega) (by omega)
  by_cases c1 : ∀ z, 0 ≤ z → z < nz → (zO L z).isSome = true
  case neg => exact ⟨fun h => absurd (fun z _ => h.1.2.1 z) c1, fun _ => z2 c1⟩
  replace z1 := z1 c1
  show (_ → _ = _) ∧ (_ → _ = _)
  have zz : ∀ P : Prop, ∀ x y : Bk × Int, (P → E1 (zL L nz) = some x) ∧ (¬ P → E1 (zL L nz) = some y) → (P → corbelref10_Read_l0 (fun v_111 va_112 vb_113 vc_114 b_115 => some ((va_112, ((true, ([] : List (Int × (Int × Int)))), ((true, ([] : List Int)), (vb_113, vc_114)))), v_111)) E1 k b L a1 k (0 : Int) [] = some x) ∧ (¬ P → corbelref10_Read_l0 (fun v_111 va_112 vb_113 vc_114 b_115 => some ((va_112, ((true, ([] : List (Int × (Int × Int)))), ((true, ([] : List Int)), (vb_113, vc_114)))), v_111)) E1 k b L a1 k (0 : Int) [] = some y) :=
    fun P x y h => ⟨fun p => (show _ = _ from z1).trans (h.1 p), fun p => (show _ = _ from z1).trans (h.2 p)⟩
  refine zz _ _ _ ?_
  rw [← hE1]
  clear zz z1 z2 hE1
  simp only
  generalize hE2 : (fun b_95 : List Int => _) = E2
  obtain ⟨m1, m2⟩ := rm_loop (fun v_116 va_117 vb_118 vc_119 b_120 => some ((va_117, ((true, ([] : List (Int × (Int × Int)))), ((true, ([] : List Int)), (vb_118, vc_119)))), v_116)) E2 k (by omega) b L hb a0 ga hga (by omega) (some zero9) (fun _ => rfl) ga k 0 (by omega) (by omega)
  by_cases c2 : ∀ z, 0 ≤ z → z < ga → (mO L z).isSome = true
  case neg => exact ⟨fun h => absurd (fun z _ => h.1.2.2 z) c2, fun _ => m2 c2⟩
  replace m1 := m1 c2
  have mm : ∀ P : Prop, ∀ x y : Bk × Int, (P → E2 (mL L ga) = some x) ∧ (¬ P → E2 (mL L ga) = some y) → (P → corbelref10_Read_l1 (fun v_116 va_117 vb_118 vc_119 b_120 => some ((va_117, ((true, ([] : List (Int × (Int × Int)))), ((true, ([] : List Int)), (vb_118, vc_119)))), v_116)) E2 k b L a0 k (0 : Int) [] = some x) ∧ (¬ P → corbelref10_Read_l1 (fun v_116 va_117 vb_118 vc_119 b_120 => some ((va_117, ((true, ([] : List (Int × (Int × Int)))), ((true, ([] : List Int)), (vb_118, vc_119)))), v_116)) E2 k b L a0 k (0 : Int) [] = some y) :=
    fun P x y h => ⟨fun p => (show _ = _ from m1).trans (h.1 p), fun p => (show _ = _ from m1).trans (h.2 p)⟩
  refine mm _ _ _ ?_
  rw [← hE2]
  clear mm m1 m2 hE2
  simp only
  rw [find_val k (by omega) b hb 6 (-1), optb_some]
  show (_ → (bif !((cO L).isSome) then _ else bif decide (cA L = 65535) then _ else _) = _) ∧ (_ → (bif !((cO L).isSome) then _ else bif decide (cA L = 65535) then _ else _) = _)
  cases c3 : (cO L).isSome with
  | false => exact ⟨fun h => absurd h.1.1 (by decide), fun _ => rfl⟩
  | true =>
    rw [Bool.not_true, cond_false]
    have j2 : ∀ (sl cu : Int) (ok : Prop) (e0 : Int → Int → Int → Int → Option (Bk × Int)) (e1 : Int → Int → Int → Option (Bk × Int)), (∀ v, e0 9 0 0 v = some zero9 ∨ True) → e0 9 0 0 0 = some zero9 → (∀ x, e1 0 x x = some ((x, ((true, zL L nz), ((true, mL L ga), (sl, cu)))), 0)) →
        (CanP a0 a1 (zL L nz) (mL L ga) sl cu ∧ (sl < 0 → cu = 0) → corbelref10_Read_j2 e0 e1 k L a0 a1 0 sl cu (zL L nz) (mL L ga) = some ((mxl L 0, ((true, zL L nz), ((true, mL L ga), (sl, cu)))), 0)) ∧
        (¬ (CanP a0 a1 (zL L nz) (mL L ga) sl cu ∧ (sl < 0 → cu = 0)) → corbelref10_Read_j2 e0 e1 k L a0 a1 0 sl cu (zL L nz) (mL L ga) = some zero9) := by
      intro sl cu ok e0 e1 _ he h1
      unfold corbelref10_Read_j2
      generalize hF : corbelref10_Read_l6 _ _ k a0 (mL L ga) k (0 : Int) = F
      obtain ⟨p1, p2⟩ := r3_loop (fun v_80 va_81 vb_82 vc_83 => e0 v_80 va_81 vb_82 vc_83) F k (by omega) a1 (zL L nz) (by rw [zL_len]; omega) (some zero9) he (zL L nz).length k 0 (by omega) (by rw [zL_len]; omega)
      unfold CanP
      by_cases d1 : ∀ t, 0 ≤ t → t < (zL L nz).length → (∀ x, (zL L nz)[t]? = some x → okZ a1 x) ∧ ∀ u, u < t → ((zL L nz).map (·.1))[u]? ≠ ((zL L nz).map (·.1))[t]?
      case neg => refine ⟨fun h => absurd (fun t _ ht => ⟨fun x hx => h.1.1 x (List.mem_of_getElem? hx), fun u hu => (nodup_lt _).1 h.1.2.1 t (by rw [List.length_map]; exact ht) u hu⟩) d1, fun _ => p2 d1⟩
      have hz1 : ∀ x ∈ zL L nz, okZ a1 x := fun x hx => by
        obtain ⟨t, ht, e⟩ := List.getElem_of_mem hx
        exact (d1 t (Nat.zero_le _) ht).1 x (by rw [List.getElem?_eq_getElem ht, e])
      have hz2 : ((zL L nz).map (·.1)).Nodup := (nodup_lt _).2 fun t ht u hu => (d1 t (Nat.zero_le _) (by rw [List.length_map] at ht; exact ht)).2 u hu
      replace p1 : corbelref10_Read_l3 (fun v_80 va_81 vb_82 vc_83 => e0 v_80 va_81 vb_82 vc_83) F k a1 (zL L nz) k (0 : Int) = F := p1 d1
      rw [p1, ← hF]
      clear p1 p2 hF
      generalize hF : (bif decide (a0 ≤ sl) then _ else _ : Option (Bk × Int)) = F
      obtain ⟨p1, p2⟩ := r6_loop (fun v_84 va_85 vb_86 vc_87 => e0 v_84 va_85 vb_86 vc_87) F k (by omega) (mL L ga) (by rw [mL_len]; omega) a0 (by rw [mL_len]; exact hga) (some zero9) he (mL L ga).length k 0 (by omega) (by rw [mL_len]; omega)
      by_cases d2 : ∀ t, 0 ≤ t → t < (mL L ga).length → (∀ x, (mL L ga)[t]? = some x → x ≤ a0) ∧ ∀ u, u < t → (mL L ga)[u]? ≠ (mL L ga)[t]?
      case neg => refine ⟨fun h => absurd (fun t _ ht => ⟨fun x hx => h.1.2.2.2.1 x (List.mem_of_getElem? hx), fun u hu => (nodup_lt _).1 h.1.2.2.1 t ht u hu⟩) d2, fun _ => p2 d2⟩
      have hm1 : ∀ x ∈ mL L ga, x ≤ a0 := fun x hx => by
        obtain ⟨t, ht, e⟩ := List.getElem_of_mem hx
        exact (d2 t (Nat.zero_le _) ht).1 x (by rw [List.getElem?_eq_getElem ht, e])
      have hm2 : (mL L ga).Nodup := (nodup_lt _).2 fun t ht u hu => (d2 t (Nat.zero_le _) ht).2 u hu
      replace p1 : corbelref10_Read_l6 (fun v_84 va_85 vb_86 vc_87 => e0 v_84 va_85 vb_86 vc_87) F k a0 (mL L ga) k (0 : Int) = F := p1 d2
      rw [p1, ← hF]
      clear p1 p2 hF
      unfold corbelref10_Read_j8 corbelref10_Read_k2 corbelref10_Read_k3 corbelref10_Read_j9
      have h10 : corbelref10_Read_l10 (fun ba_64 => e1 0 ba_64 ba_64) k L k (0 : Int) (0 : Int) = e1 0 (mxl L 0) (mxl L 0) := r10_loop _ k (by omega) L hb L k 0 0 List.drop_zero (by have := hb.1; omega) (by omega)
      rw [h10, h1]
      by_cases d3 : a0 ≤ sl
      · rw [decide_eq_true d3, cond_true, cond_true]
        exact ⟨fun h => by have := h.1.2.2.2.2.1; omega, fun _ => he⟩
      rw [decide_eq_false d3, cond_false]
      by_cases d4 : a1 < cu
      · rw [decide_eq_true d4, cond_true, cond_true]
        exact ⟨fun h => by have := h.1.2.2.2.2.2; omega, fun _ => he⟩
      rw [decide_eq_false d4, cond_false]
      by_cases d5 : sl < 0
      · rw [decide_eq_true d5, cond_true]
        by_cases d6 : cu = 0
        · rw [decide_eq_true d6, Bool.not_true, cond_false]
          exact ⟨fun _ => rfl, fun h => absurd ⟨⟨hz1, hz2, hm2, hm1, by omega, by omega⟩, fun _ => d6⟩ h⟩
        · rw [decide_eq_false d6, Bool.not_false, cond_true]
          exact ⟨fun h => absurd (h.2 d5) d6, fun _ => he⟩
      · rw [decide_eq_false d5, cond_false, cond_false]
        exact ⟨fun _ => rfl, fun h => absurd ⟨⟨hz1, hz2, hm2, hm1, by omega, by omega⟩, fun e => absurd e d5⟩ h⟩
    unfold bookN slot
    by_cases c4 : cA L = 65535
    · rw [decide_eq_true c4, cond_true, if_pos c4]
      obtain ⟨g1, g2⟩ := j2 (-1) (cB L) True (fun v_88 va_89 vb_90 vc_91 => corbelref10_Read_k5 k v_88 va_89 vb_90 vc_91 (-1) (cB L)) (fun v_96 va_97 ha_100 => corbelref10_Read_k6 k (zL L nz) (mL L ga) v_96 va_97 (-1) (cB L) ha_100 (-1) (cB L)) (fun _ => Or.inr trivial) rfl (fun x => rfl)
      exact ⟨fun h => g1 ⟨h.2.1, fun _ => h.2.2 c4⟩, fun h => g2 fun h' => h ⟨⟨rfl, fun z => c1 z (Nat.zero_le _), fun z => c2 z (Nat.zero_le _)⟩, h'.1, fun _ => h'.2 (by omega)⟩⟩
    · rw [decide_eq_false c4, cond_false, if_neg c4]
      obtain ⟨g1, g2⟩ := j2 (cA L) (cB L) True (fun v_88 va_89 vb_90 vc_91 => corbelref10_Read_k5 k v_88 va_89 vb_90 vc_91 (cA L) (cB L)) (fun v_96 va_97 ha_100 => corbelref10_Read_k6 k (zL L nz) (mL L ga) v_96 va_97 (cA L) (cB L) ha_100 (cA L) (cB L)) (fun _ => Or.inr trivial) rfl (fun x => rfl)
      exact ⟨fun h => g1 ⟨h.2.1, fun e => by omega⟩, fun h => g2 fun h' => h ⟨⟨rfl, fun z => c1 z (Nat.zero_le _), fun z => c2 z (Nat.zero_le _)⟩, h'.1, fun e => absurd e c4⟩⟩
theorem new_val (k : Nat) (hk : 3000 ≤ k) (a0 a1 a2 a3 a4 : Int) (hG : GG a0 a1 a2 a3 a4) (nz ga : Nat) (hz : a1 = nz + 3) (hga : a0 = ga) :
    ∃ (Z0 : List Zn) (M0 : List Int), Z0.length = nz ∧ M0.length = ga ∧ book_New k a0 a1 a2 a3 a4 = some (0, ((true, Z0), ((true, M0), (-1, 0)))) := by
  have hGG := hG
  unfold GG at hGG
  unfold book_New
  rw [zones_yes k hG, optb_some, show a1 - 3 = (nz : Int) by omega]
  generalize hE : (fun b_412 : List Zn => optb _ _) = E
  obtain ⟨Z0, z1, z2⟩ := newz_loop E k (v := nz) (by omega) nz k 0 [] (by omega) (by omega) rfl
  obtain ⟨M0, m1, m2⟩ := newm_loop (fun b_445 => book_New_j2 (some ((0 : Int), ((true, Z0), ((true, b_445), ((-1 : Int), (0 : Int)))))) k) k (v := ga) (by omega) ga k 0 [] (by omega) (by omega) rfl
  refine ⟨Z0, M0, z1, m1, (show _ = _ from z2).trans ?_⟩
  rw [← hE]
  simp only
  rw [good_val, optb_some, decide_eq_true hG, cond_true, hga]
  exact m2
def wants (nz ga : Nat) : List (Int × Int) := ([((6 : Int), (0 : Int))] ++ (List.range nz).map fun z : Nat => ((3 : Int), (z : Int))) ++ (List.range ga).map fun z : Nat => ((5 : Int), (z : Int))
theorem wants_len (nz ga : Nat) : (wants nz ga).length = 1 + nz + ga := by
  unfold wants
  rw [List.length_append, List.length_append, List.length_map, List.length_map, List.length_range, List.length_range, List.length_singleton]
theorem wants_c (nz ga : Nat) : (wants nz ga)[0]? = some (6, 0) := rfl
theorem wants_z (nz ga z : Nat) (h : z < nz) : (wants nz ga)[1 + z]? = some (3, (z : Int)) := by
  unfold wants
  rw [List.getElem?_append_left (by rw [List.length_append, List.length_map, List.length_range, List.length_singleton]; omega), List.getElem?_append_right (by rw [List.length_singleton]; omega), List.length_singleton, show 1 + z - 1 = z by omega, List.getElem?_map, List.getElem?_range h]; rfl
theorem wants_m (nz ga z : Nat) (h : z < ga) : (wants nz ga)[(1 + nz) + z]? = some (5, (z : Int)) := by
  unfold wants
  rw [List.getElem?_append_right (by rw [List.length_append, List.length_map, List.length_range, List.length_singleton]; omega), List.length_append, List.length_map, List.length_range, List.length_singleton, show (1 + nz) + z - (1 + nz) = z by omega, List.getElem?_map, List.getElem?_range h]; rfl
theorem l2_all {R : Type} (e0 : Int → Int → Int → Int → Bool → List Zn → Bool → List Int → Int → Int → Int → Option R) (e1 : Bool → List Zn → Bool → List Int → Int → Int → Int → Option R) (k : Nat) (L : List Lst) (D : List (Nat × (Int × Int) × Rec)) (hm : ∀ key, mget K2 D key = nwl (kp key) L none)
    (nz ga : Nat) (hz : nz ≤ 1000) (hg : ga ≤ 1000) (J : Nat) (hJ : 3000 ≤ J) (ba : Int) (bb : Bool) (Z0 : List Zn) (bd : Bool) (M0 : List Int) (bf bg : Int) (hZ : Z0.length = nz) (hM : M0.length = ga) (Q : Option R → Prop)
    (h9 : ¬ Present L nz ga → ∀ ba bb Z bd M bf bg, Q (e0 9 0 0 0 bb Z bd M ba bf bg)) (h1 : Present L nz ga → ∀ ba bb bd, Q (e1 bb (zL L nz) bd (mL L ga) ba (slot L) (cB L))) :
    Q (book_Read_l2 e0 e1 k (lenI (wants nz ga)) D (wants nz ga) J 0 bb Z0 bd M0 ba bf bg) := by
  have hW : (wants nz ga).length ≤ 10000 := by rw [wants_len]; omega
  have hD : ∀ key x, mget K2 D key = some x → ofR x = key := fun key x hx => by
    rw [hm] at hx
    exact of_decide_eq_true (nwl_has (kp key) L none (fun _ h => by cases h) x hx)
  have kc : mget K2 D (6, 0) = cO L := by rw [hm]; unfold cO; exact (nwl_congr _ _ L (fun _ _ x _ => kp_cursor x) none).symm
  have kz : ∀ z : Nat, mget K2 D (3, (z : Int)) = zO L z := fun z => by rw [hm]; unfold zO; exact (nwl_congr _ _ L (fun _ _ x _ => kp_zone (by omega) x) none).symm
  have km : ∀ z : Nat, mget K2 D (5, (z : Int)) = mO L z := fun z => by rw [hm]; unfold mO; exact (nwl_congr _ _ L (fun _ _ x _ => kp_member (by omega) x) none).symm
  obtain ⟨j0, rfl⟩ : ∃ j0, J = (((j0 + 1) + ga) + nz) + 1 := ⟨J - (ga + nz + 2), by omega⟩
  have hs := l2_step e0 e1 k D (wants nz ga) hW (((j0 + 1) + ga) + nz) 0 _ (wants_c nz ga) ba bb Z0 bd M0 bf bg
  rw [show ((0 : Nat) : Int) = 0 from rfl] at hs
  rw [hs, kc]
  cases hc : cO L with
  | none => exact h9 (fun h => by have := h.1; rw [hc] at this; cases this) _ _ _ _ _ _ _
  | some x =>
    have ho : ofR x = (6, 0) := hD _ x (by rw [kc]; exact hc)
    have h6 : x.1 = 6 := by
      unfold ofR at ho
      by_cases e : x.1 = 6
      · exact e
      · rw [if_neg e] at ho; exact congrArg Prod.fst ho
    obtain ⟨ba1, bb1, bd1, hn⟩ := note_cursor k ba bb Z0 bd M0 bf bg x (by omega) (by omega) h6
    simp only
    rw [hn, optb_some]
    simp only
    have hA : (if x.2.2.1 = 65535 then -1 else x.2.2.1) = slot L := by unfold slot cA; rw [hc]; rfl
    have hB : x.2.2.2.1 = cB L := by unfold cB; rw [hc]; rfl
    rw [hA, hB]
    refine zones_stage e0 e1 k D (wants nz ga) hW 1 nz hz (fun z h => wants_z nz ga z h) hD Q (fun z hzz hno => h9 fun h => ?_) M0 (by omega) (slot L) (cB L) ((j0 + 1) + ga) nz 0 ba1 bb1 Z0 bd1 (by omega) hZ (fun z h => by omega) (fun ba bb Z bd hZl hZz => ?_) (fun _ => trivial)
    · have := h.2.1 z hzz
      rw [kz] at hno; rw [hno] at this; cases this
    have eZ : Z = zL L nz := by
      refine List.ext_getElem? fun z => ?_
      by_cases hzn : z < nz
      · obtain ⟨y, y1, y2⟩ := hZz z hzn
        rw [kz] at y1
        unfold zL
        rw [y2, List.getElem?_map, List.getElem?_range hzn, Option.map_some, y1]; rfl
      · rw [List.getElem?_eq_none (by omega), List.getElem?_eq_none (by rw [zL_len]; omega)]
    refine members_stage e0 e1 k D (wants nz ga) hW (1 + nz) ga hg (fun z h => wants_m nz ga z h) hD Q (fun z hzz hno => h9 fun h => ?_) Z (by omega) (slot L) (cB L) (j0 + 1) ga 0 ba bb M0 bd (by omega) hM (fun z h => by omega) (fun ba bb M bd hMl hMz => ?_)
    · have := h.2.2 z hzz
      rw [km] at hno; rw [hno] at this; cases this
    have eM : M = mL L ga := by
      refine List.ext_getElem? fun z => ?_
      by_cases hzn : z < ga
      · obtain ⟨y, y1, y2⟩ := hMz z hzn
        rw [km] at y1
        unfold mL
        rw [y2, List.getElem?_map, List.getElem?_range hzn, Option.map_some, y1]; rfl
      · rw [List.getElem?_eq_none (by omega), List.getElem?_eq_none (by rw [mL_len]; omega)]
    rw [book_Read_l2]; unfold book_Read_l2s
    rw [lenI_eq, wants_len, decide_eq_false (by omega), cond_false, eZ, eM]
    refine h1 ⟨by rw [hc]; rfl, fun z h => ?_, fun z h => ?_⟩ _ _ _
    · obtain ⟨y, y1, _⟩ := hZz z h
      rw [← kz, y1]; rfl
    · obtain ⟨y, y1, _⟩ := hMz z h
      rw [← km, y1]; rfl
theorem book_val (k : Nat) (hk : 3000 ≤ k) (a0 a1 a2 a3 a4 : Int) (hG : GG a0 a1 a2 a3 a4) (nz ga : Nat) (hz : a1 = nz + 3) (hga : a0 = ga) (b : Bool) (L : List Lst) (hb : L.length ≤ 100 ∧ ∀ q ∈ L, q.2.length ≤ 900) :
    (Goes L nz ga a0 a1 → ∃ b1 b2, book_Read k a0 a1 a2 a3 a4 b L = some (bookN L nz ga b1 b2)) ∧ (¬ Goes L nz ga a0 a1 → book_Read k a0 a1 a2 a3 a4 b L = some zero9) := by
  have hGG := hG
  unfold GG at hGG
  unfold book_Read
  rw [good_val, optb_some, decide_eq_true hG, Bool.not_true, cond_false]
  generalize hE : (fun (seq_68 : Int) (ha_78 : List (Nat × (Int × Int) × Rec)) (hb_79 : Nat) => _) = E
  obtain ⟨D, c, hD, hn⟩ := new_l0 E k (by omega) L hb L k 0 0 [] 0 List.drop_zero (by have := hb.1; omega) (by omega)
  have hn : book_Read_i38_2_l0 E k L (lenI L) k 0 0 [] 0 = E (mxl L 0) D c := hn
  rw [hn, ← hE]
  simp only
  obtain ⟨Z0, M0, hZ0, hM0, hnew⟩ := new_val k hk a0 a1 a2 a3 a4 hG nz ga hz hga
  rw [hnew, optb_some]
  simp only
  clear hn hE
  have hlz : lenI Z0 = (nz : Int) := by rw [lenI_eq, hZ0]
  have hlm : lenI M0 = (ga : Int) := by rw [lenI_eq, hM0]
  rw [hlz, hlm]
  have hwz := fun (e0 : List (Int × Int) → Option (Bk × Int)) => wantz_loop e0 k (v := nz) (by omega) [((6 : Int), (0 : Int))] (by simp) nz k 0 (by omega) (by omega)
  have hwz : ∀ (e0 : List (Int × Int) → Option (Bk × Int)), book_Read_l0 e0 k nz k 0 [((6 : Int), (0 : Int))] = e0 ([((6 : Int), (0 : Int))] ++ (List.range nz).map fun z : Nat => ((3 : Int), (z : Int))) := hwz
  have hwm : ∀ (e0 : List (Int × Int) → Option (Bk × Int)), book_Read_l1 e0 k ga k 0 ([((6 : Int), (0 : Int))] ++ (List.range nz).map fun z : Nat => ((3 : Int), (z : Int))) = e0 (wants nz ga) := fun e0 => by
    have := wantm_loop e0 k (v := ga) (by omega) ([((6 : Int), (0 : Int))] ++ (List.range nz).map fun z : Nat => ((3 : Int), (z : Int))) (by rw [List.length_append, List.length_map, List.length_range, List.length_singleton]; omega) ga k 0 (by omega) (by omega)
    rw [List.range_zero, List.map_nil, List.append_nil] at this
    exact this
  rw [hwz, hwm]
  have hmg : ∀ key, mget K2 D key = nwl (kp key) L none := fun key => hD key
  have kc : mval K2 Z7 D (6, 0) = (cO L).getD Z7 := by
    unfold mval; rw [hmg]; unfold cO; rw [nwl_congr _ _ L (fun _ _ x _ => kp_cursor x) none]
  refine l2_all _ _ k L D hmg nz ga (by omega) (by omega) k hk 0 true Z0 true M0 (-1) 0 hZ0 hM0 (fun o => (Goes L nz ga a0 a1 → ∃ b c, o = some (bookN L nz ga b c)) ∧ (¬ Goes L nz ga a0 a1 → o = some zero9)) (fun hp _ _ _ _ _ _ _ => ⟨fun h => absurd h.1 hp, fun _ => rfl⟩) (fun hp _ bb bd => ?_)
  try simp only
  obtain ⟨v1, v2⟩ := can_val k (by omega) (mxl L 0) bb (zL L nz) bd (mL L ga) (slot L) (cB L) a0 a1 a2 a3 a4 (by rw [zL_len]; omega) (by rw [mL_len]; omega) (by rw [mL_len]; omega)
  unfold book_Read_j3 book_Read_k0 book_Read_k1 book_Read_j4
  by_cases hc : CanP a0 a1 (zL L nz) (mL L ga) (slot L) (cB L)
  case neg =>
    rw [v2 hc, optb_some, Bool.not_false, cond_true, cond_true]
    exact ⟨fun h => absurd h.2.1 hc, fun _ => rfl⟩
  rw [v1 hc, optb_some, Bool.not_true, cond_false]
  show (_ → ∃ b c, (bif decide ((mval K2 Z7 D (6, 0)).2.2.1 = 65535) then _ else _) = _) ∧ (_ → (bif decide ((mval K2 Z7 D (6, 0)).2.2.1 = 65535) then _ else _) = _)
  rw [kc]
  show (_ → ∃ b c, (bif decide (cA L = 65535) then _ else _) = _) ∧ (_ → (bif decide (cA L = 65535) then _ else _) = _)
  by_cases hA : cA L = 65535
  · rw [decide_eq_true hA, cond_true]
    by_cases hB : cB L = 0
    · rw [decide_eq_true hB, Bool.not_true, cond_false]
      exact ⟨fun _ => ⟨bb, bd, rfl⟩, fun h => absurd ⟨hp, hc, fun _ => hB⟩ h⟩
    · rw [decide_eq_false hB, Bool.not_false, cond_true]
      exact ⟨fun h => absurd (h.2.2 hA) hB, fun _ => rfl⟩
  · rw [decide_eq_false hA, cond_false, cond_false]
    exact ⟨fun _ => ⟨bb, bd, rfl⟩, fun h => absurd ⟨hp, hc, fun e => absurd e hA⟩ h⟩
/-! ### two books that are the same -/
theorem sz_loop {R : Type} (e0 : Bool → Option R) (e1 : Option R) (k : Nat) (Z : List Zn) (hZ : Z.length ≤ 1000) : ∀ (n j i : Nat), i + n = Z.length → n < j → corbellaw10_same_l1 e0 e1 k Z Z j i = e1
  | 0, j, i, h, hj => by
    obtain ⟨j, rfl⟩ : ∃ u, j = u + 1 := ⟨j - 1, by omega⟩
    rw [corbellaw10_same_l1]; unfold corbellaw10_same_l1s
    rw [lenI_eq, decide_eq_false (by omega), cond_false]
  | n + 1, j, i, h, hj => by
    obtain ⟨j, rfl⟩ : ∃ u, j = u + 1 := ⟨j - 1, by omega⟩
    refine Eq.trans ?_ (sz_loop e0 e1 k Z hZ n j (i + 1) (by omega) (by omega))
    have hi : i < Z.length := by omega
    rw [corbellaw10_same_l1]; unfold corbellaw10_same_l1s
    rw [lenI_eq, decide_eq_true (show (i : Int) < Z.length by omega), cond_true, decide_eq_true (show (0 : Int) ≤ i by omega), cond_true, Int.toNat_natCast, List.getElem?_eq_getElem hi, optb_some, cond_true, optb_some, decide_eq_true rfl, Bool.not_true, cond_false, cond_true, optb_some, cond_true, optb_some, decide_eq_true rfl, Bool.not_true, cond_false, cond_true, optb_some, cond_true, optb_some, decide_eq_true rfl, Bool.not_true]
    unfold corbellaw10_same_j2 corbellaw10_same_k3
    rw [cond_false, w64 (by omega) (by omega), show (i : Int) + 1 = ((i + 1 : Nat) : Int) by omega]
theorem sm_loop {R : Type} (e0 : Bool → Option R) (e1 : Option R) (k : Nat) (M : List Int) (hM : M.length ≤ 1000) : ∀ (n j i : Nat), i + n = M.length → n < j → corbellaw10_same_l3 e0 e1 k M M j i = e1
  | 0, j, i, h, hj => by
    obtain ⟨j, rfl⟩ : ∃ u, j = u + 1 := ⟨j - 1, by omega⟩
    rw [corbellaw10_same_l3]; unfold corbellaw10_same_l3s
    rw [lenI_eq, decide_eq_false (by omega), cond_false]
  | n + 1, j, i, h, hj => by
    obtain ⟨j, rfl⟩ : ∃ u, j = u + 1 := ⟨j - 1, by omega⟩
    refine Eq.trans ?_ (sm_loop e0 e1 k M hM n j (i + 1) (by omega) (by omega))
    have hi : i < M.length := by omega
    rw [corbellaw10_same_l3]; unfold corbellaw10_same_l3s
    rw [lenI_eq, decide_eq_true (show (i : Int) < M.length by omega), cond_true, decide_eq_true (show (0 : Int) ≤ i by omega), cond_true, Int.toNat_natCast, List.getElem?_eq_getElem hi, optb_some, cond_true, optb_some, decide_eq_true rfl, Bool.not_true, cond_false, w64 (by omega) (by omega), show (i : Int) + 1 = ((i + 1 : Nat) : Int) by omega]
theorem same_self (k : Nat) (hk : 2000 ≤ k) (ba : Int) (b1 b2 b3 b4 : Bool) (Z : List Zn) (M : List Int) (bf bg : Int) (hZ : Z.length ≤ 1000) (hM : M.length ≤ 1000) : corbellaw10_same k ba b1 Z b2 M bf bg ba b3 Z b4 M bf bg = some true := by
  unfold corbellaw10_same
  rw [decide_eq_true (rfl : ba = ba), Bool.not_true, cond_false, decide_eq_true (rfl : bf = bf), Bool.not_true, cond_false, decide_eq_true (rfl : bg = bg), Bool.not_true, cond_false, decide_eq_true (rfl : lenI Z = lenI Z), Bool.not_true, cond_false, decide_eq_true (rfl : lenI M = lenI M), Bool.not_true]
  unfold corbellaw10_same_j0 corbellaw10_same_k1
  rw [cond_false]
  have h1 := sz_loop (fun v_22 => some v_22) (corbellaw10_same_l3 (fun v_23 => some v_23) (some true) k M M k (0 : Int)) k Z hZ Z.length k 0 (by omega) (by omega)
  refine (show _ = _ from h1).trans ?_
  exact sm_loop (fun v_23 => some v_23) (some true) k M hM M.length k 0 (by omega) (by omega)
/-! ### the records of a book -/
def em : ByteArray := (⟨#[]⟩ : ByteArray)
def mrec : Int → Nat → List Int → List Rec
  | _, _, [] => []
  | ba, i, x :: l => (5, (ba + 1, ((i : Int), (x, (0, (0, em)))))) :: mrec (ba + 1) (i + 1) l
def zrec : Int → Nat → List Zn → List Rec
  | _, _, [] => []
  | ba, i, x :: l => (3, (ba + 1, ((i : Int), (x.1, (x.2.1, (x.2.2, em)))))) :: zrec (ba + 1) (i + 1) l
theorem mrec_len : ∀ (l : List Int) (ba : Int) (i : Nat), (mrec ba i l).length = l.length
  | [], _, _ => rfl
  | x :: l, ba, i => by unfold mrec; rw [List.length_cons, List.length_cons, mrec_len l]
theorem zrec_len : ∀ (l : List Zn) (ba : Int) (i : Nat), (zrec ba i l).length = l.length
  | [], _, _ => rfl
  | x :: l, ba, i => by unfold zrec; rw [List.length_cons, List.length_cons, zrec_len l]
theorem mrec_mem : ∀ (l : List Int) (ba : Int) (i : Nat) (y : Rec), y ∈ mrec ba i l ↔ ∃ (t : Nat) (v : Int), l[t]? = some v ∧ y = (5, (ba + 1 + t, (((i + t : Nat) : Int), (v, (0, (0, em))))))
  | [], ba, i, y => ⟨(fun h => by cases h), (fun ⟨t, v, h, _⟩ => by simp at h)⟩
  | x :: l, ba, i, y => by
    unfold mrec
    rw [List.mem_cons, mrec_mem l (ba + 1) (i + 1) y]
    constructor
    · rintro (rfl | ⟨t, v, h1, h2⟩)
      · exact ⟨0, x, rfl, by simp⟩
      · exact ⟨t + 1, v, h1, by rw [h2, show ba + 1 + 1 + (t : Int) = ba + 1 + ((t + 1 : Nat) : Int) by omega, show i + 1 + t = i + (t + 1) by omega]⟩
    · rintro ⟨t, v, h1, h2⟩
      cases t with
      | zero =>
        left
        have hv : x = v := Option.some.inj h1
        rw [h2, ← hv]; simp
      | succ t => exact Or.inr ⟨t, v, h1, by rw [h2, show ba + 1 + 1 + (t : Int) = ba + 1 + ((t + 1 : Nat) : Int) by omega, show i + 1 + t = i + (t + 1) by omega]⟩
theorem zrec_mem : ∀ (l : List Zn) (ba : Int) (i : Nat) (y : Rec), y ∈ zrec ba i l ↔ ∃ (t : Nat) (v : Zn), l[t]? = some v ∧ y = (3, (ba + 1 + t, (((i + t : Nat) : Int), (v.1, (v.2.1, (v.2.2, em))))))
  | [], ba, i, y => ⟨(fun h => by cases h), (fun ⟨t, v, h, _⟩ => by simp at h)⟩
  | x :: l, ba, i, y => by
    unfold zrec
    rw [List.mem_cons, zrec_mem l (ba + 1) (i + 1) y]
    constructor
    · rintro (rfl | ⟨t, v, h1, h2⟩)
      · exact ⟨0, x, rfl, by simp⟩
      · exact ⟨t + 1, v, h1, by rw [h2, show ba + 1 + 1 + (t : Int) = ba + 1 + ((t + 1 : Nat) : Int) by omega, show i + 1 + t = i + (t + 1) by omega]⟩
    · rintro ⟨t, v, h1, h2⟩
      cases t with
      | zero =>
        left
        have hv : x = v := Option.some.inj h1
        rw [h2, ← hv]; simp
      | succ t => exact Or.inr ⟨t, v, h1, by rw [h2, show ba + 1 + 1 + (t : Int) = ba + 1 + ((t + 1 : Nat) : Int) by omega, show i + 1 + t = i + (t + 1) by omega]⟩
theorem rec_l0 {R : Type} (e0 : Int → List Rec → Option R) (k : Nat) (M : List Int) (hM : M.length ≤ 1000) : ∀ (rest : List Int) (j i : Nat) (ba : Int) (out : List Rec), M.drop i = rest → rest.length < j → i ≤ M.length → 0 ≤ ba → ba + rest.length ≤ 1000000000000000000 → out.length + rest.length ≤ 100000 →
    book_Book_Records_l0 e0 k M (lenI M) j i ba out = e0 (ba + rest.length) (out ++ mrec ba i rest)
  | [], j, i, ba, out, h, hj, hi, b0, b1, ho => by
    obtain ⟨j, rfl⟩ : ∃ u, j = u + 1 := ⟨j - 1, by omega⟩
    have := congrArg List.length h
    rw [List.length_drop, List.length_nil] at this
    rw [book_Book_Records_l0]; unfold book_Book_Records_l0s
    rw [lenI_eq, decide_eq_false (by omega), cond_false, List.length_nil]
    unfold mrec
    rw [List.append_nil, show ba + ((0 : Nat) : Int) = ba by omega]
  | x :: rest, j, i, ba, out, h, hj, hi, b0, b1, ho => by
    obtain ⟨j, rfl⟩ : ∃ u, j = u + 1 := ⟨j - 1, by omega⟩
    obtain ⟨h1, h2, h3⟩ := drop_cons' h
    rw [List.length_cons] at hj b1 ho
    have ih := rec_l0 e0 k M hM rest j (i + 1) (ba + 1) (out ++ [(5, (ba + 1, ((i : Int), (x, (0, (0, em))))))]) h3 (by omega) (by omega) (by omega) (by omega) (by rw [List.length_append, List.length_singleton]; omega)
    have hl : lenI M = (M.length : Int) := lenI_eq M
    rw [book_Book_Records_l0]; unfold book_Book_Records_l0s
    rw [hl, decide_eq_true (show (i : Int) < M.length by omega), cond_true, decide_eq_true (show (0 : Int) ≤ i by omega), cond_true, Int.toNat_natCast, h1, optb_some, ← hl, decide_eq_true (by rw [List.length_singleton]; omega), cond_true, w64 (n := (i : Int) + 1) (by omega) (by omega), w64 (n := ba + 1) (by omega) (by omega), show (i : Int) + 1 = ((i + 1 : Nat) : Int) by omega]
    refine (show _ = _ from ih).trans ?_
    rw [List.append_assoc, List.length_cons, show ba + 1 + (rest.length : Int) = ba + ((rest.length + 1 : Nat) : Int) by omega]; rfl
theorem rec_l1 {R : Type} (e0 : Int → List Rec → Option R) (k : Nat) (M : List Zn) (hM : M.length ≤ 1000) : ∀ (rest : List Zn) (j i : Nat) (ba : Int) (out : List Rec), M.drop i = rest → rest.length < j → i ≤ M.length → 0 ≤ ba → ba + rest.length ≤ 1000000000000000000 → out.length + rest.length ≤ 100000 →
    book_Book_Records_l1 e0 k M (lenI M) j i ba out = e0 (ba + rest.length) (out ++ zrec ba i rest)
  | [], j, i, ba, out, h, hj, hi, b0, b1, ho => by
    obtain ⟨j, rfl⟩ : ∃ u, j = u + 1 := ⟨j - 1, by omega⟩
    have := congrArg List.length h
    rw [List.length_drop, List.length_nil] at this
    rw [book_Book_Records_l1]; unfold book_Book_Records_l1s
    rw [lenI_eq, decide_eq_false (by omega), cond_false, List.length_nil]
    unfold zrec
    rw [List.append_nil, show ba + ((0 : Nat) : Int) = ba by omega]
  | x :: rest, j, i, ba, out, h, hj, hi, b0, b1, ho => by
    obtain ⟨j, rfl⟩ : ∃ u, j = u + 1 := ⟨j - 1, by omega⟩
    obtain ⟨h1, h2, h3⟩ := drop_cons' h
    rw [List.length_cons] at hj b1 ho
    have ih := rec_l1 e0 k M hM rest j (i + 1) (ba + 1) (out ++ [(3, (ba + 1, ((i : Int), (x.1, (x.2.1, (x.2.2, em))))))]) h3 (by omega) (by omega) (by omega) (by omega) (by rw [List.length_append, List.length_singleton]; omega)
    have hl : lenI M = (M.length : Int) := lenI_eq M
    rw [book_Book_Records_l1]; unfold book_Book_Records_l1s
    rw [hl, decide_eq_true (show (i : Int) < M.length by omega), cond_true, decide_eq_true (show (0 : Int) ≤ i by omega), cond_true, Int.toNat_natCast, h1, optb_some, ← hl, decide_eq_true (by rw [List.length_singleton]; omega), cond_true, w64 (n := (i : Int) + 1) (by omega) (by omega), w64 (n := ba + 1) (by omega) (by omega), show (i : Int) + 1 = ((i + 1 : Nat) : Int) by omega]
    refine (show _ = _ from ih).trans ?_
    rw [List.append_assoc, List.length_cons, show ba + 1 + (rest.length : Int) = ba + ((rest.length + 1 : Nat) : Int) by omega]; rfl
def recs (ba : Int) (Z : List Zn) (M : List Int) (sl bg : Int) : List Rec := (mrec ba 0 M ++ zrec (ba + M.length) 0 Z) ++ [(6, (ba + M.length + Z.length + 1, (sl, (bg, (0, (0, em))))))]
theorem records_val (k : Nat) (hk : 3000 ≤ k) (ba : Int) (bb : Bool) (Z : List Zn) (bd : Bool) (M : List Int) (bf bg : Int) (hZ : Z.length ≤ 1000) (hM : M.length ≤ 1000) (b0 : 0 ≤ ba) (b1 : ba ≤ 100000000000000000) :
    book_Book_Records k ba bb Z bd M bf bg = some ((true, recs ba Z M (if bf < 0 then 65535 else bf) bg), (ba + M.length + Z.length + 1, ((bb, Z), ((bd, M), (bf, bg))))) := by
  unfold book_Book_Records
  generalize hE : (fun (ba_26 : Int) (out_27 : List Rec) => _) = E
  have h1 := rec_l0 E k M hM M k 0 ba [] List.drop_zero (by omega) (by omega) b0 (by omega) (by rw [List.length_nil]; omega)
  refine (show _ = _ from h1).trans ?_
  rw [← hE]
  simp only
  rw [List.nil_append]
  generalize hE2 : (fun (ba_28 : Int) (out_29 : List Rec) => _) = E2
  have h2 := rec_l1 E2 k Z hZ Z k 0 (ba + M.length) (mrec ba 0 M) List.drop_zero (by omega) (by omega) (by omega) (by omega) (by rw [mrec_len]; omega)
  refine (show _ = _ from h2).trans ?_
  rw [← hE2]
  simp only
  by_cases c : bf < 0
  · rw [decide_eq_true c, cond_true, if_pos c]
    unfold book_Book_Records_j2 book_Book_Records_k0
    rw [decide_eq_true (by rw [List.length_append, mrec_len, zrec_len, List.length_singleton]; omega), cond_true, w64 (n := ba + M.length + Z.length + 1) (by omega) (by omega)]
    rfl
  · rw [decide_eq_false c, cond_false, if_neg c]
    unfold book_Book_Records_j2 book_Book_Records_k0
    rw [decide_eq_true (by rw [List.length_append, mrec_len, zrec_len, List.length_singleton]; omega), cond_true, w64 (n := ba + M.length + Z.length + 1) (by omega) (by omega)]
    rfl
/-! ### and what is read of them -/
theorem fold_one (p : Rec → Bool) (x : Rec) (hp : p x = true) : ∀ (l : List Rec) (o : Option Rec), (∀ y ∈ l, p y = true → y = x) → (o = none ∨ o = some x) → (x ∈ l ∨ o = some x) → l.foldl (stp p) o = some x
  | [], o, h, ho, hx => by
    rcases hx with hx | hx
    · cases hx
    · exact hx
  | y :: l, o, h, ho, hx => by
    rw [List.foldl_cons]
    cases hy : p y with
    | false =>
      have hs : stp p o y = o := by unfold stp; rw [hy, cond_false]
      rw [hs]
      refine fold_one p x hp l o (fun z hz => h z (List.mem_cons_of_mem _ hz)) ho ?_
      rcases hx with hx | hx
      · rcases List.mem_cons.1 hx with rfl | hx
        · rw [hp] at hy; cases hy
        · exact Or.inl hx
      · exact Or.inr hx
    | true =>
      obtain rfl := h y (List.mem_cons_self ..) hy
      have hs : stp p o y = some y := by
        unfold stp
        rw [hy, cond_true]
        rcases ho with rfl | rfl
        · rfl
        · show (bif decide (y.2.1 < y.2.1) then _ else _) = _
          rw [decide_eq_false (by omega), cond_false]
      rw [hs]
      exact fold_one p y hp l (some y) (fun z hz => h z (List.mem_cons_of_mem _ hz)) (Or.inr rfl) (Or.inr rfl)
theorem recs_mem (ba : Int) (Z : List Zn) (M : List Int) (sl bg : Int) (y : Rec) : y ∈ recs ba Z M sl bg ↔ (∃ (t : Nat) (v : Int), M[t]? = some v ∧ y = (5, (ba + 1 + t, ((t : Int), (v, (0, (0, em))))))) ∨ (∃ (t : Nat) (v : Zn), Z[t]? = some v ∧ y = (3, (ba + M.length + 1 + t, ((t : Int), (v.1, (v.2.1, (v.2.2, em))))))) ∨ y = (6, (ba + M.length + Z.length + 1, (sl, (bg, (0, (0, em)))))) := by
  unfold recs
  rw [List.mem_append, List.mem_append, mrec_mem, zrec_mem, List.mem_singleton, or_assoc]
  simp only [Nat.zero_add]
theorem z_of (b : Bool) (ba : Int) (Z : List Zn) (M : List Int) (sl bg : Int) (t : Nat) (v : Zn) (h : Z[t]? = some v) : zO [(b, recs ba Z M sl bg)] t = some (3, (ba + M.length + 1 + t, ((t : Int), (v.1, (v.2.1, (v.2.2, em)))))) := by
  have hp : pk 3 t (3, (ba + M.length + 1 + t, ((t : Int), (v.1, (v.2.1, (v.2.2, em)))))) = true := by
    show (decide ((3 : Int) = 3) && (decide ((t : Int) < 0) || decide ((t : Int) = t))) = true; rw [decide_eq_true (rfl : (t : Int) = t), Bool.or_true]; rfl
  refine fold_one (pk 3 t) _ hp _ none (fun y hy hpy => ?_) (Or.inl rfl) (Or.inl ((recs_mem ..).2 (Or.inr (Or.inl ⟨t, v, h, rfl⟩))))
  unfold pk at hpy
  rw [Bool.and_eq_true, Bool.or_eq_true] at hpy
  obtain ⟨k1, k2⟩ := hpy
  have k1 := of_decide_eq_true k1
  have k2 : y.2.2.1 = t := by
    rcases k2 with k2 | k2
    · have := of_decide_eq_true k2; omega
    · exact of_decide_eq_true k2
  rcases (recs_mem ..).1 hy with ⟨u, w, h1, rfl⟩ | ⟨u, w, h1, rfl⟩ | rfl
  · exact absurd k1 (by show ¬ (5 : Int) = 3; omega)
  · have k2 : (u : Int) = t := k2
    have : u = t := by omega
    subst this
    rw [h] at h1; cases h1; rfl
  · exact absurd k1 (by show ¬ (6 : Int) = 3; omega)
theorem m_of (b : Bool) (ba : Int) (Z : List Zn) (M : List Int) (sl bg : Int) (t : Nat) (v : Int) (h : M[t]? = some v) : mO [(b, recs ba Z M sl bg)] t = some (5, (ba + 1 + t, ((t : Int), (v, (0, (0, em)))))) := by
  have hp : pk 5 t (5, (ba + 1 + t, ((t : Int), (v, (0, (0, em)))))) = true := by
    show (decide ((5 : Int) = 5) && (decide ((t : Int) < 0) || decide ((t : Int) = t))) = true; rw [decide_eq_true (rfl : (t : Int) = t), Bool.or_true]; rfl
  refine fold_one (pk 5 t) _ hp _ none (fun y hy hpy => ?_) (Or.inl rfl) (Or.inl ((recs_mem ..).2 (Or.inl ⟨t, v, h, rfl⟩)))
  unfold pk at hpy
  rw [Bool.and_eq_true, Bool.or_eq_true] at hpy
  obtain ⟨k1, k2⟩ := hpy
  have k1 := of_decide_eq_true k1
  have k2 : y.2.2.1 = t := by
    rcases k2 with k2 | k2
    · have := of_decide_eq_true k2; omega
    · exact of_decide_eq_true k2
  rcases (recs_mem ..).1 hy with ⟨u, w, h1, rfl⟩ | ⟨u, w, h1, rfl⟩ | rfl
  · have k2 : (u : Int) = t := k2
    have : u = t := by omega
    subst this
    rw [h] at h1; cases h1; rfl
  · exact absurd k1 (by show ¬ (3 : Int) = 5; omega)
  · exact absurd k1 (by show ¬ (6 : Int) = 5; omega)
theorem c_of (b : Bool) (ba : Int) (Z : List Zn) (M : List Int) (sl bg : Int) : cO [(b, recs ba Z M sl bg)] = some (6, (ba + M.length + Z.length + 1, (sl, (bg, (0, (0, em)))))) := by
  refine fold_one (pk 6 (-1)) _ rfl _ none (fun y hy hpy => ?_) (Or.inl rfl) (Or.inl ((recs_mem ..).2 (Or.inr (Or.inr rfl))))
  unfold pk at hpy
  rw [Bool.and_eq_true] at hpy
  have k1 := of_decide_eq_true hpy.1
  rcases (recs_mem ..).1 hy with ⟨u, w, h1, rfl⟩ | ⟨u, w, h1, rfl⟩ | rfl
  · exact absurd k1 (by show ¬ (5 : Int) = 6; omega)
  · exact absurd k1 (by show ¬ (3 : Int) = 6; omega)
  · rfl
theorem mxs_le (N : Int) : ∀ (l : List Rec) (m : Int), (∀ y ∈ l, y.2.1 ≤ N) → m ≤ N → mxs l m ≤ N
  | [], m, _, hm => hm
  | x :: l, m, h, hm => by
    have hx := h x (List.mem_cons_self ..)
    show mxs l (bif decide (x.2.1 > m) then x.2.1 else m) ≤ N
    refine mxs_le N l _ (fun y hy => h y (List.mem_cons_of_mem _ hy)) ?_
    cases decide (x.2.1 > m) <;> assumption
theorem mx_of (b : Bool) (ba : Int) (Z : List Zn) (M : List Int) (sl bg : Int) (h0 : 0 ≤ ba) : mxl [(b, recs ba Z M sl bg)] 0 = ba + M.length + Z.length + 1 := by
  show mxs (recs ba Z M sl bg) 0 = _
  unfold recs mxs
  rw [List.foldl_append]
  have h := mxs_le (ba + M.length + Z.length) (mrec ba 0 M ++ zrec (ba + M.length) 0 Z) 0 (fun y hy => by
    rw [List.mem_append, mrec_mem, zrec_mem] at hy
    rcases hy with ⟨t, v, h1, rfl⟩ | ⟨t, v, h1, rfl⟩
    · have := (List.getElem?_eq_some_iff.1 h1).1
      show ba + 1 + (t : Int) ≤ _; omega
    · have := (List.getElem?_eq_some_iff.1 h1).1
      show ba + M.length + 1 + (t : Int) ≤ _; omega) (by omega)
  unfold mxs at h
  generalize List.foldl (fun (m : Int) (x : Rec) => bif decide (x.2.1 > m) then x.2.1 else m) 0 (mrec ba 0 M ++ zrec (ba + M.length) 0 Z) = m at h ⊢
  show (bif decide (ba + M.length + Z.length + 1 > m) then ba + M.length + Z.length + 1 else m) = _
  rw [decide_eq_true (by omega), cond_true]
theorem zL_of (b : Bool) (ba : Int) (Z : List Zn) (M : List Int) (sl bg : Int) : zL [(b, recs ba Z M sl bg)] Z.length = Z := by
  refine List.ext_getElem? fun t => ?_
  by_cases h : t < Z.length
  · unfold zL
    rw [List.getElem?_map, List.getElem?_range h, Option.map_some, z_of b ba Z M sl bg t _ (List.getElem?_eq_getElem h), List.getElem?_eq_getElem h]; rfl
  · rw [List.getElem?_eq_none (by rw [zL_len]; omega), List.getElem?_eq_none (by omega)]
theorem mL_of (b : Bool) (ba : Int) (Z : List Zn) (M : List Int) (sl bg : Int) : mL [(b, recs ba Z M sl bg)] M.length = M := by
  refine List.ext_getElem? fun t => ?_
  by_cases h : t < M.length
  · unfold mL
    rw [List.getElem?_map, List.getElem?_range h, Option.map_some, m_of b ba Z M sl bg t _ (List.getElem?_eq_getElem h), List.getElem?_eq_getElem h]; rfl
  · rw [List.getElem?_eq_none (by rw [mL_len]; omega), List.getElem?_eq_none (by omega)]
/-! ### the document's records -/
def strip (x : Rec) : Rec := (x.1, (0, x.2.2))
theorem refrec_l0 {R : Type} (e0 : List Rec → Option R) (k : Nat) (M : List Int) (hM : M.length ≤ 1000) : ∀ (rest : List Int) (j i : Nat) (ba : Int) (out : List Rec), M.drop i = rest → rest.length < j → i ≤ M.length → out.length + rest.length ≤ 100000 →
    corbelref10_Records_l0 e0 k M j i out = e0 (out ++ (mrec ba i rest).map strip)
  | [], j, i, ba, out, h, hj, hi, ho => by
    obtain ⟨j, rfl⟩ : ∃ u, j = u + 1 := ⟨j - 1, by omega⟩
    have := congrArg List.length h
    rw [List.length_drop, List.length_nil] at this
    rw [corbelref10_Records_l0]; unfold corbelref10_Records_l0s
    rw [lenI_eq, decide_eq_false (by omega), cond_false]
    unfold mrec
    rw [List.map_nil, List.append_nil]
  | x :: rest, j, i, ba, out, h, hj, hi, ho => by
    obtain ⟨j, rfl⟩ : ∃ u, j = u + 1 := ⟨j - 1, by omega⟩
    obtain ⟨h1, h2, h3⟩ := drop_cons' h
    rw [List.length_cons] at hj ho
    have ih := refrec_l0 e0 k M hM rest j (i + 1) (ba + 1) (out ++ [(5, (0, ((i : Int), (x, (0, (0, em))))))]) h3 (by omega) (by omega) (by rw [List.length_append, List.length_singleton]; omega)
    rw [corbelref10_Records_l0]; unfold corbelref10_Records_l0s
    rw [lenI_eq, decide_eq_true (show (i : Int) < M.length by omega), cond_true, decide_eq_true (show (0 : Int) ≤ i by omega), cond_true, Int.toNat_natCast, h1, optb_some, decide_eq_true (by rw [List.length_singleton]; omega), cond_true, w64 (n := (i : Int) + 1) (by omega) (by omega), show (i : Int) + 1 = ((i + 1 : Nat) : Int) by omega]
    refine (show _ = _ from ih).trans ?_
    rw [List.append_assoc]; rfl
theorem refrec_l1 {R : Type} (e0 : List Rec → Option R) (k : Nat) (M : List Zn) (hM : M.length ≤ 1000) : ∀ (rest : List Zn) (j i : Nat) (ba : Int) (out : List Rec), M.drop i = rest → rest.length < j → i ≤ M.length → out.length + rest.length ≤ 100000 →
    corbelref10_Records_l1 e0 k M j i out = e0 (out ++ (zrec ba i rest).map strip)
  | [], j, i, ba, out, h, hj, hi, ho => by
    obtain ⟨j, rfl⟩ : ∃ u, j = u + 1 := ⟨j - 1, by omega⟩
    have := congrArg List.length h
    rw [List.length_drop, List.length_nil] at this
    rw [corbelref10_Records_l1]; unfold corbelref10_Records_l1s
    rw [lenI_eq, decide_eq_false (by omega), cond_false]
    unfold zrec
    rw [List.map_nil, List.append_nil]
  | x :: rest, j, i, ba, out, h, hj, hi, ho => by
    obtain ⟨j, rfl⟩ : ∃ u, j = u + 1 := ⟨j - 1, by omega⟩
    obtain ⟨h1, h2, h3⟩ := drop_cons' h
    rw [List.length_cons] at hj ho
    have ih := refrec_l1 e0 k M hM rest j (i + 1) (ba + 1) (out ++ [(3, (0, ((i : Int), (x.1, (x.2.1, (x.2.2, em))))))]) h3 (by omega) (by omega) (by rw [List.length_append, List.length_singleton]; omega)
    rw [corbelref10_Records_l1]; unfold corbelref10_Records_l1s
    rw [lenI_eq, decide_eq_true (show (i : Int) < M.length by omega), cond_true, decide_eq_true (show (0 : Int) ≤ i by omega), cond_true, Int.toNat_natCast, h1, optb_some, cond_true, optb_some, cond_true, optb_some, decide_eq_true (by rw [List.length_singleton]; omega), cond_true, w64 (n := (i : Int) + 1) (by omega) (by omega), show (i : Int) + 1 = ((i + 1 : Nat) : Int) by omega]
    refine (show _ = _ from ih).trans ?_
    rw [List.append_assoc]; rfl
theorem refrec_l3 {R : Type} (e0 : List Rec → Option R) (k : Nat) (S : Int) (s0 : 0 ≤ S) (s1 : S ≤ 100000000000000000) (W : List Rec) (hW : W.length ≤ 100000) (hs : ∀ (t : Nat) (x : Rec), W[t]? = some x → x.2.1 = S + 1 + t) : ∀ (B : List Rec) (j : Nat) (A : List Rec), A ++ B = W → B.length < j →
    corbelref10_Records_l3 e0 k S j A.length (A ++ B.map strip) = e0 W
  | [], j, A, h, hj => by
    obtain ⟨j, rfl⟩ : ∃ u, j = u + 1 := ⟨j - 1, by omega⟩
    rw [corbelref10_Records_l3]; unfold corbelref10_Records_l3s
    rw [List.map_nil, List.append_nil, lenI_eq, decide_eq_false (by omega), cond_false, ← h, List.append_nil]
  | y :: B, j, A, h, hj => by
    obtain ⟨j, rfl⟩ : ∃ u, j = u + 1 := ⟨j - 1, by omega⟩
    rw [List.length_cons] at hj
    have hl := congrArg List.length h
    rw [List.length_append, List.length_cons] at hl
    have hy := hs A.length y (by rw [← h, List.getElem?_append_right (Nat.le_refl _), Nat.sub_self]; rfl)
    have ih := refrec_l3 e0 k S s0 s1 W hW hs B j (A ++ [y]) (by rw [List.append_assoc]; exact h) (by omega)
    rw [List.length_append, List.length_singleton] at ih
    rw [← ih]
    rw [corbelref10_Records_l3]; unfold corbelref10_Records_l3s
    rw [List.map_cons, lenI_eq, List.length_append, List.length_cons, List.length_map, decide_eq_true (show (A.length : Int) < ((A.length + (B.length + 1) : Nat) : Int) by omega), cond_true, decide_eq_true (show (0 : Int) ≤ A.length by omega), Bool.and_self, cond_true, Int.toNat_natCast, List.getElem?_append_right (Nat.le_refl _), Nat.sub_self, List.getElem?_cons_zero, optb_some, w64 (n := S + 1) (by omega) (by omega), w64 (n := S + 1 + (A.length : Int)) (by omega) (by omega), w64 (n := (A.length : Int) + 1) (by omega) (by omega), show (A.length : Int) + 1 = ((A.length + 1 : Nat) : Int) by omega, List.set_append_right _ _ (Nat.le_refl _), Nat.sub_self, List.set_cons_zero, ← hy, List.append_assoc]
    rfl
theorem mrec_seq : ∀ (l : List Int) (ba : Int) (i t : Nat) (x : Rec), (mrec ba i l)[t]? = some x → x.2.1 = ba + 1 + t
  | [], _, _, _, _, h => by unfold mrec at h; simp at h
  | y :: l, ba, i, t, x, h => by
    unfold mrec at h
    cases t with
    | zero => rw [List.getElem?_cons_zero] at h; cases h; show ba + 1 = ba + 1 + ((0 : Nat) : Int); omega
    | succ t => rw [List.getElem?_cons_succ] at h; have := mrec_seq l (ba + 1) (i + 1) t x h; omega
theorem zrec_seq : ∀ (l : List Zn) (ba : Int) (i t : Nat) (x : Rec), (zrec ba i l)[t]? = some x → x.2.1 = ba + 1 + t
  | [], _, _, _, _, h => by unfold zrec at h; simp at h
  | y :: l, ba, i, t, x, h => by
    unfold zrec at h
    cases t with
    | zero => rw [List.getElem?_cons_zero] at h; cases h; show ba + 1 = ba + 1 + ((0 : Nat) : Int); omega
    | succ t => rw [List.getElem?_cons_succ] at h; have := zrec_seq l (ba + 1) (i + 1) t x h; omega
theorem recs_len (ba : Int) (Z : List Zn) (M : List Int) (sl bg : Int) : (recs ba Z M sl bg).length = M.length + Z.length + 1 := by
  unfold recs
  rw [List.length_append, List.length_append, mrec_len, zrec_len, List.length_singleton]
theorem recs_seq (ba : Int) (Z : List Zn) (M : List Int) (sl bg : Int) (t : Nat) (x : Rec) (h : (recs ba Z M sl bg)[t]? = some x) : x.2.1 = ba + 1 + t := by
  unfold recs at h
  rcases Nat.lt_or_ge t (M.length + Z.length) with h1 | h1
  · rw [List.getElem?_append_left (by rw [List.length_append, mrec_len, zrec_len]; exact h1)] at h
    rcases Nat.lt_or_ge t M.length with h2 | h2
    · rw [List.getElem?_append_left (by rw [mrec_len]; exact h2)] at h
      exact mrec_seq M ba 0 t x h
    · rw [List.getElem?_append_right (by rw [mrec_len]; exact h2), mrec_len] at h
      have := zrec_seq Z (ba + M.length) 0 (t - M.length) x h
      omega
  · rw [List.getElem?_append_right (by rw [List.length_append, mrec_len, zrec_len]; exact h1), List.length_append, mrec_len, zrec_len] at h
    have ht : t - (M.length + Z.length) = 0 := by
      rcases Nat.eq_zero_or_pos (t - (M.length + Z.length)) with e | e
      · exact e
      · rw [List.getElem?_eq_none (by rw [List.length_singleton]; omega)] at h; cases h
    rw [ht, List.getElem?_cons_zero] at h
    cases h
    show ba + M.length + Z.length + 1 = ba + 1 + (t : Int); omega
theorem refrec_val (k : Nat) (hk : 3000 ≤ k) (ba : Int) (bb : Bool) (Z : List Zn) (bd : Bool) (M : List Int) (bf bg : Int) (hZ : Z.length ≤ 1000) (hM : M.length ≤ 1000) (b0 : 0 ≤ ba) (b1 : ba ≤ 100000000000000000) :
    corbelref10_Records k ba bb Z bd M bf bg = some (true, recs ba Z M (if bf < 0 then 65535 else bf) bg) := by
  unfold corbelref10_Records
  generalize hE : (fun (out_27 : List Rec) => corbelref10_Records_l1 _ _ _ _ _ _) = E
  have h1 := refrec_l0 E k M hM M k 0 ba [] List.drop_zero (by omega) (by omega) (by rw [List.length_nil]; omega)
  refine (show _ = _ from h1).trans ?_
  rw [← hE]
  simp only
  rw [List.nil_append]
  generalize hE2 : (fun (out_28 : List Rec) => cond _ _ _) = E2
  have h2 := refrec_l1 E2 k Z hZ Z k 0 (ba + M.length) ((mrec ba 0 M).map strip) List.drop_zero (by omega) (by omega) (by rw [List.length_map, mrec_len]; omega)
  refine (show _ = _ from h2).trans ?_
  rw [← hE2]
  simp only
  have fin : ∀ sl : Int, corbelref10_Records_l3 (fun out_18 : List Rec => some (true, out_18)) k ba k (0 : Int) ((mrec ba 0 M).map strip ++ (zrec (ba + M.length) 0 Z).map strip ++ [((6 : Int), ((0 : Int), (sl, (bg, ((0 : Int), ((0 : Int), (⟨#[]⟩ : ByteArray)))))))]) = some (true, recs ba Z M sl bg) := fun sl => by
    have h3 := refrec_l3 (fun out_18 : List Rec => some (true, out_18)) k ba b0 b1 (recs ba Z M sl bg) (by rw [recs_len]; omega) (fun t x h => recs_seq ba Z M sl bg t x h) (recs ba Z M sl bg) k [] rfl (by rw [recs_len]; omega)
    rw [List.nil_append] at h3
    refine Eq.trans ?_ h3
    unfold recs
    rw [List.map_append, List.map_append]; rfl
  by_cases c : bf < 0
  · rw [decide_eq_true c, cond_true, if_pos c]
    unfold corbelref10_Records_j2 corbelref10_Records_k0
    rw [decide_eq_true (by rw [List.length_append, List.length_map, List.length_map, mrec_len, zrec_len, List.length_singleton]; omega), cond_true]
    exact fin 65535
  · rw [decide_eq_false c, cond_false, if_neg c]
    unfold corbelref10_Records_j2 corbelref10_Records_k0
    rw [decide_eq_true (by rw [List.length_append, List.length_map, List.length_map, mrec_len, zrec_len, List.length_singleton]; omega), cond_true]
    exact fin bf
/-! ### the newest of several lists -/
def flat (L : List Lst) : List Rec := L.flatMap (·.2)
theorem nwl_flat (p : Rec → Bool) : ∀ (L : List Lst) (o : Option Rec), nwl p L o = (flat L).foldl (stp p) o
  | [], o => rfl
  | q :: L, o => by
    show nwl p L (q.2.foldl (stp p) o) = _
    rw [nwl_flat p L]
    unfold flat
    rw [List.flatMap_cons, List.foldl_append]
theorem mxl_flat : ∀ (L : List Lst) (m : Int), mxl L m = mxs (flat L) m
  | [], m => rfl
  | q :: L, m => by
    show mxl L (mxs q.2 m) = _
    rw [mxl_flat L]
    unfold flat mxs
    rw [List.flatMap_cons, List.foldl_append]
theorem mxs_ge : ∀ (l : List Rec) (m : Int), m ≤ mxs l m ∧ ∀ y ∈ l, y.2.1 ≤ mxs l m
  | [], m => ⟨Int.le_refl _, fun y hy => by cases hy⟩
  | x :: l, m => by
    obtain ⟨h1, h2⟩ := mxs_ge l (bif decide (x.2.1 > m) then x.2.1 else m)
    show m ≤ mxs l (bif decide (x.2.1 > m) then x.2.1 else m) ∧ ∀ y ∈ x :: l, y.2.1 ≤ mxs l (bif decide (x.2.1 > m) then x.2.1 else m)
    have h3 : m ≤ (bif decide (x.2.1 > m) then x.2.1 else m) ∧ x.2.1 ≤ (bif decide (x.2.1 > m) then x.2.1 else m) := by
      by_cases c : x.2.1 > m
      · rw [decide_eq_true c, cond_true]; omega
      · rw [decide_eq_false c, cond_false]; omega
    refine ⟨by omega, fun y hy => ?_⟩
    rcases List.mem_cons.1 hy with rfl | hy
    · omega
    · exact h2 y hy
theorem fold_new (p : Rec → Bool) (x : Rec) (hp : p x = true) : ∀ (l : List Rec) (o : Option Rec), (∀ y ∈ l, p y = true → y = x ∨ y.2.1 < x.2.1) → (∀ b, o = some b → b = x ∨ b.2.1 < x.2.1) → (x ∈ l ∨ o = some x) → l.foldl (stp p) o = some x
  | [], o, _, _, hx => by
    rcases hx with hx | hx
    · cases hx
    · exact hx
  | y :: l, o, h, ho, hx => by
    rw [List.foldl_cons]
    have hl : ∀ z ∈ l, p z = true → z = x ∨ z.2.1 < x.2.1 := fun z hz => h z (List.mem_cons_of_mem _ hz)
    cases hy : p y with
    | false =>
      have hs : stp p o y = o := by unfold stp; rw [hy, cond_false]
      rw [hs]
      refine fold_new p x hp l o hl ho ?_
      rcases hx with hx | hx
      · rcases List.mem_cons.1 hx with rfl | hx
        · rw [hp] at hy; cases hy
        · exact Or.inl hx
      · exact Or.inr hx
    | true =>
      have hyx := h y (List.mem_cons_self ..) hy
      cases o with
      | none =>
        have hs : stp p none y = some y := by unfold stp; rw [hy, cond_true]
        rw [hs]
        refine fold_new p x hp l (some y) hl (fun b hb => by cases hb; exact hyx) ?_
        rcases hx with hx | hx
        · rcases List.mem_cons.1 hx with rfl | hx
          · exact Or.inr rfl
          · exact Or.inl hx
        · cases hx
      | some b =>
        have hb := ho b rfl
        have hs : stp p (some b) y = bif decide (b.2.1 < y.2.1) then some y else some b := by unfold stp; rw [hy, cond_true]
        rw [hs]
        by_cases c : b.2.1 < y.2.1
        · rw [decide_eq_true c, cond_true]
          refine fold_new p x hp l (some y) hl (fun b hb => by cases hb; exact hyx) ?_
          rcases hx with hx | hx
          · rcases List.mem_cons.1 hx with rfl | hx
            · exact Or.inr rfl
            · exact Or.inl hx
          · cases hx
            rcases hyx with rfl | hyx
            · omega
            · omega
        · rw [decide_eq_false c, cond_false]
          refine fold_new p x hp l (some b) hl (fun b' hb' => by cases hb'; exact hb) ?_
          rcases hx with hx | hx
          · rcases List.mem_cons.1 hx with rfl | hx
            · rcases hb with rfl | hb
              · exact Or.inr rfl
              · exact absurd hb c
            · exact Or.inl hx
          · exact Or.inr hx
theorem z_uni (ba : Int) (Z : List Zn) (M : List Int) (sl bg : Int) (t : Nat) (v : Zn) (h : Z[t]? = some v) (y : Rec) (hy : y ∈ recs ba Z M sl bg) (hpy : pk 3 t y = true) : y = (3, (ba + M.length + 1 + t, ((t : Int), (v.1, (v.2.1, (v.2.2, em)))))) := by
  unfold pk at hpy
  rw [Bool.and_eq_true, Bool.or_eq_true] at hpy
  obtain ⟨k1, k2⟩ := hpy
  have k1 := of_decide_eq_true k1
  have k2 : y.2.2.1 = t := by
    rcases k2 with k2 | k2
    · have := of_decide_eq_true k2; omega
    · exact of_decide_eq_true k2
  rcases (recs_mem ..).1 hy with ⟨u, w, h1, rfl⟩ | ⟨u, w, h1, rfl⟩ | rfl
  · exact absurd k1 (by show ¬ (5 : Int) = 3; omega)
  · have k2 : (u : Int) = t := k2
    have : u = t := by omega
    subst this
    rw [h] at h1; cases h1; rfl
  · exact absurd k1 (by show ¬ (6 : Int) = 3; omega)
theorem m_uni (ba : Int) (Z : List Zn) (M : List Int) (sl bg : Int) (t : Nat) (v : Int) (h : M[t]? = some v) (y : Rec) (hy : y ∈ recs ba Z M sl bg) (hpy : pk 5 t y = true) : y = (5, (ba + 1 + t, ((t : Int), (v, (0, (0, em)))))) := by
  unfold pk at hpy
  rw [Bool.and_eq_true, Bool.or_eq_true] at hpy
  obtain ⟨k1, k2⟩ := hpy
  have k1 := of_decide_eq_true k1
  have k2 : y.2.2.1 = t := by
    rcases k2 with k2 | k2
    · have := of_decide_eq_true k2; omega
    · exact of_decide_eq_true k2
  rcases (recs_mem ..).1 hy with ⟨u, w, h1, rfl⟩ | ⟨u, w, h1, rfl⟩ | rfl
  · have k2 : (u : Int) = t := k2
    have : u = t := by omega
    subst this
    rw [h] at h1; cases h1; rfl
  · exact absurd k1 (by show ¬ (3 : Int) = 5; omega)
  · exact absurd k1 (by show ¬ (6 : Int) = 5; omega)
theorem c_uni (ba : Int) (Z : List Zn) (M : List Int) (sl bg : Int) (y : Rec) (hy : y ∈ recs ba Z M sl bg) (hpy : pk 6 (-1) y = true) : y = (6, (ba + M.length + Z.length + 1, (sl, (bg, (0, (0, em)))))) := by
  unfold pk at hpy
  rw [Bool.and_eq_true] at hpy
  have k1 := of_decide_eq_true hpy.1
  rcases (recs_mem ..).1 hy with ⟨u, w, h1, rfl⟩ | ⟨u, w, h1, rfl⟩ | rfl
  · exact absurd k1 (by show ¬ (5 : Int) = 6; omega)
  · exact absurd k1 (by show ¬ (3 : Int) = 6; omega)
  · rfl
/-! ### the book's records among what was there before, cut anywhere -/
section
variable (L : List Lst) (f g : Bool) (W : List Rec) (c : Nat)
def among : List Lst := [(f, W.drop c)] ++ (L ++ [(g, W.take c)])
theorem among_mem (y : Rec) : y ∈ flat (among L f g W c) ↔ y ∈ W ∨ y ∈ flat L := by
  unfold among flat
  rw [List.flatMap_append, List.flatMap_append, List.mem_append, List.mem_append]
  have hd : ∀ (b : Bool) (w : List Rec), List.flatMap (fun x : Lst => x.2) [(b, w)] = w := fun b w => by rw [List.flatMap_cons, List.flatMap_nil, List.append_nil]
  rw [hd, hd]
  have hw : y ∈ W ↔ y ∈ W.take c ∨ y ∈ W.drop c := by rw [← List.mem_append, List.take_append_drop]
  rw [hw]
  constructor
  · rintro (h | h | h)
    · exact Or.inl (Or.inr h)
    · exact Or.inr h
    · exact Or.inl (Or.inl h)
  · rintro ((h | h) | h)
    · exact Or.inr (Or.inr h)
    · exact Or.inl h
    · exact Or.inr (Or.inl h)
end
theorem among_new (p : Rec → Bool) (x : Rec) (hp : p x = true) (L : List Lst) (f g : Bool) (W : List Rec) (c : Nat) (hx : x ∈ W) (hu : ∀ y ∈ W, p y = true → y = x) (hs : mxl L 0 < x.2.1) : nwl p (among L f g W c) none = some x := by
  rw [nwl_flat]
  refine fold_new p x hp _ none (fun y hy hpy => ?_) (fun b hb => by cases hb) (Or.inl ((among_mem L f g W c x).2 (Or.inl hx)))
  rcases (among_mem L f g W c y).1 hy with h | h
  · exact Or.inl (hu y h hpy)
  · have := (mxs_ge (flat L) 0).2 y h
    rw [← mxl_flat] at this
    exact Or.inr (by omega)
theorem slot_back (L : List Lst) (hL : FineLL L) : (if slot L < 0 then 65535 else slot L) = cA L := by
  have := c_fine L hL
  unfold slot
  by_cases c : cA L = 65535
  · rw [if_pos c, if_pos (by omega), c]
  · rw [if_neg c, if_neg (by omega)]
theorem mx_bounds (L : List Lst) (hL : FineLL L) : 0 ≤ mxl L 0 ∧ mxl L 0 ≤ 1099511627776 := by
  rw [mxl_flat]
  refine ⟨(mxs_ge (flat L) 0).1, mxs_le 1099511627776 (flat L) 0 (fun y hy => ?_) (by omega)⟩
  obtain ⟨q, hq, hyq⟩ := List.mem_flatMap.1 hy
  have := ((hL.2 q hq).2 y hyq).2.1
  omega
theorem again_val (k : Nat) (hk : 3000 ≤ k) (a0 a1 a2 a3 a4 : Int) (hG : GG a0 a1 a2 a3 a4) (nz ga : Nat) (hz : a1 = nz + 3) (hga : a0 = ga) (L : List Lst) (hL : FineLL L) (hgo : Goes L nz ga a0 a1) (b f g : Bool) (c : Nat) :
    ∃ b1 b2, book_Read k a0 a1 a2 a3 a4 b (among L f g (recs (mxl L 0) (zL L nz) (mL L ga) (cA L) (cB L)) c) = some ((mxl L 0 + ga + nz + 1, ((b1, zL L nz), ((b2, mL L ga), (slot L, cB L)))), 0) := by
  have hGG := hG
  unfold GG at hGG
  have hS := mx_bounds L hL
  have hlz := zL_len L nz
  have hlm := mL_len L ga
  have hcan := hgo.2.1
  have hcur := hgo.2.2
  have esl : slot L = if cA L = 65535 then -1 else cA L := rfl
  have hSe : mxl L 0 = mxs (flat L) 0 := mxl_flat L 0
  generalize zL L nz = Z at hlz hcan ⊢
  generalize mL L ga = M at hlm hcan ⊢
  generalize slot L = sl at hcan esl ⊢
  generalize cA L = sa at esl hcur ⊢
  generalize cB L = cu at hcan hcur ⊢
  have hz1 : ∀ t v, Z[t]? = some v → zO (among L f g (recs (mxl L 0) Z M sa cu) c) t = some (3, (mxl L 0 + M.length + 1 + t, ((t : Int), (v.1, (v.2.1, (v.2.2, em)))))) := fun t v h => by
    refine among_new (pk 3 t) _ ?_ L f g _ c ((recs_mem ..).2 (Or.inr (Or.inl ⟨t, v, h, rfl⟩))) (fun y hy hp => z_uni _ Z M sa cu t v h y hy hp) (by show mxl L 0 < mxl L 0 + M.length + 1 + (t : Int); omega)
    show (decide ((3 : Int) = 3) && (decide ((t : Int) < 0) || decide ((t : Int) = t))) = true; rw [decide_eq_true (rfl : (t : Int) = t), Bool.or_true]; rfl
  have hm1 : ∀ t v, M[t]? = some v → mO (among L f g (recs (mxl L 0) Z M sa cu) c) t = some (5, (mxl L 0 + 1 + t, ((t : Int), (v, (0, (0, em)))))) := fun t v h => by
    refine among_new (pk 5 t) _ ?_ L f g _ c ((recs_mem ..).2 (Or.inl ⟨t, v, h, rfl⟩)) (fun y hy hp => m_uni _ Z M sa cu t v h y hy hp) (by show mxl L 0 < mxl L 0 + 1 + (t : Int); omega)
    show (decide ((5 : Int) = 5) && (decide ((t : Int) < 0) || decide ((t : Int) = t))) = true; rw [decide_eq_true (rfl : (t : Int) = t), Bool.or_true]; rfl
  have hc1 : cO (among L f g (recs (mxl L 0) Z M sa cu) c) = some (6, (mxl L 0 + M.length + Z.length + 1, (sa, (cu, (0, (0, em)))))) :=
    among_new (pk 6 (-1)) _ rfl L f g _ c ((recs_mem ..).2 (Or.inr (Or.inr rfl))) (fun y hy hp => c_uni _ Z M sa cu y hy hp) (by show mxl L 0 < mxl L 0 + M.length + Z.length + 1; omega)
  have hx1 : mxl (among L f g (recs (mxl L 0) Z M sa cu) c) 0 = mxl L 0 + ga + nz + 1 := by
    rw [mxl_flat]
    have h1 := mxs_le (mxl L 0 + ga + nz + 1) (flat (among L f g (recs (mxl L 0) Z M sa cu) c)) 0 (fun y hy => by
      rcases (among_mem L f g _ c y).1 hy with h | h
      · rcases (recs_mem ..).1 h with ⟨t, v, h1, rfl⟩ | ⟨t, v, h1, rfl⟩ | rfl
        · have := (List.getElem?_eq_some_iff.1 h1).1
          show mxl L 0 + 1 + (t : Int) ≤ _; omega
        · have := (List.getElem?_eq_some_iff.1 h1).1
          show mxl L 0 + M.length + 1 + (t : Int) ≤ _; omega
        · show mxl L 0 + M.length + Z.length + 1 ≤ _; omega
      · have := (mxs_ge (flat L) 0).2 y h
        omega) (by omega)
    have h2 := (mxs_ge (flat (among L f g (recs (mxl L 0) Z M sa cu) c)) 0).2 _ ((among_mem L f g _ c _).2 (Or.inl ((recs_mem (mxl L 0) Z M sa cu _).2 (Or.inr (Or.inr rfl)))))
    have h2 : mxl L 0 + M.length + Z.length + 1 ≤ mxs (flat (among L f g (recs (mxl L 0) Z M sa cu) c)) 0 := h2
    omega
  have hb : (among L f g (recs (mxl L 0) Z M sa cu) c).length ≤ 100 ∧ ∀ q ∈ among L f g (recs (mxl L 0) Z M sa cu) c, q.2.length ≤ 900 := by
    have hrl := recs_len (mxl L 0) Z M sa cu
    have hb0 := bounds L hL
    have hl8 := hL.1
    unfold among
    refine ⟨by rw [List.length_append, List.length_append, List.length_singleton, List.length_singleton]; omega, fun q hq => ?_⟩
    rcases List.mem_append.1 hq with h | h
    · rw [List.mem_singleton] at h
      rw [h]
      show (List.drop c _).length ≤ 900
      rw [List.length_drop]; omega
    · rcases List.mem_append.1 h with h | h
      · exact hb0.2 q h
      · rw [List.mem_singleton] at h
        rw [h]
        show (List.take c _).length ≤ 900
        rw [List.length_take]; omega
  generalize hL' : among L f g (recs (mxl L 0) Z M sa cu) c = L' at hz1 hm1 hc1 hx1 hb ⊢
  have eZ : zL L' nz = Z := by
    refine List.ext_getElem? fun t => ?_
    by_cases h : t < nz
    · unfold zL
      rw [List.getElem?_map, List.getElem?_range h, Option.map_some, hz1 t _ (List.getElem?_eq_getElem (by omega)), List.getElem?_eq_getElem (by omega)]; rfl
    · rw [List.getElem?_eq_none (by rw [zL_len]; omega), List.getElem?_eq_none (by omega)]
  have eM : mL L' ga = M := by
    refine List.ext_getElem? fun t => ?_
    by_cases h : t < ga
    · unfold mL
      rw [List.getElem?_map, List.getElem?_range h, Option.map_some, hm1 t _ (List.getElem?_eq_getElem (by omega)), List.getElem?_eq_getElem (by omega)]; rfl
    · rw [List.getElem?_eq_none (by rw [mL_len]; omega), List.getElem?_eq_none (by omega)]
  have eA : cA L' = sa := by unfold cA; rw [hc1]; rfl
  have eB : cB L' = cu := by unfold cB; rw [hc1]; rfl
  have eS : slot L' = sl := by unfold slot; rw [eA, esl]
  have hgo' : Goes L' nz ga a0 a1 := by
    refine ⟨⟨by rw [hc1]; rfl, fun z hz => ?_, fun z hz => ?_⟩, ?_, fun h => ?_⟩
    · rw [hz1 z _ (List.getElem?_eq_getElem (by omega))]; rfl
    · rw [hm1 z _ (List.getElem?_eq_getElem (by omega))]; rfl
    · rw [eZ, eM, eS, eB]; exact hcan
    · rw [eB]; rw [eA] at h; exact hcur h
  obtain ⟨b1, b2, hr⟩ := (book_val k hk a0 a1 a2 a3 a4 hG nz ga hz hga b L' hb).1 hgo'
  refine ⟨b1, b2, hr.trans ?_⟩
  unfold bookN
  rw [eZ, eM, eS, eB, hx1]
/-! ### the law -/
theorem bw_l2 {R : Type} (e0 : Bool → Option R) (e1 : Option R) (k : Nat) (W : List Rec) (hW : W.length ≤ 100000) : ∀ (n j i : Nat), i + n = W.length → n < j → BW_l2 e0 e1 k W W j i = e1
  | 0, j, i, h, hj => by
    obtain ⟨j, rfl⟩ : ∃ u, j = u + 1 := ⟨j - 1, by omega⟩
    rw [BW_l2]; unfold BW_l2s
    rw [lenI_eq, decide_eq_false (by omega), cond_false]
  | n + 1, j, i, h, hj => by
    obtain ⟨j, rfl⟩ : ∃ u, j = u + 1 := ⟨j - 1, by omega⟩
    have hi : i < W.length := by omega
    rw [BW_l2]; unfold BW_l2s
    rw [lenI_eq, decide_eq_true (show (i : Int) < W.length by omega), cond_true, decide_eq_true (show (0 : Int) ≤ i by omega), cond_true, Int.toNat_natCast, List.getElem?_eq_getElem hi, optb_some, cond_true, optb_some, decide_eq_true rfl, decide_eq_true rfl, decide_eq_true rfl, decide_eq_true rfl, decide_eq_true rfl, decide_eq_true rfl, decide_eq_true rfl]
    show (bif !true then _ else _) = _
    rw [Bool.not_true, cond_false, w64 (by omega) (by omega), show (i : Int) + 1 = ((i + 1 : Nat) : Int) by omega]
    exact bw_l2 e0 e1 k W hW n j (i + 1) (by omega) (by omega)
theorem cut_in {x : Int} (hx : -9223372036854775808 ≤ x ∧ x ≤ 9223372036854775807) (n : Nat) (hn : n ≤ 100000) : ∃ c : Nat, c ≤ n ∧ Int.tmod (wrap64 (wrap64 (Int.tmod x ((n : Int) + 1) + n) + 1)) ((n : Int) + 1) = c := by
  have m0 := Int.lt_tmod_of_pos x (show (0 : Int) < (n : Int) + 1 by omega)
  have m1 := Int.tmod_lt_of_pos x (show (0 : Int) < (n : Int) + 1 by omega)
  rw [w64 (n := Int.tmod x ((n : Int) + 1) + n) (by omega) (by omega), w64 (n := Int.tmod x ((n : Int) + 1) + n + 1) (by omega) (by omega), tmod_pos (by omega)]
  have e0 := Int.emod_nonneg (Int.tmod x ((n : Int) + 1) + n + 1) (show (n : Int) + 1 ≠ 0 by omega)
  have e1 := Int.emod_lt_of_pos (Int.tmod x ((n : Int) + 1) + n + 1) (show (0 : Int) < (n : Int) + 1 by omega)
  exact ⟨((Int.tmod x ((n : Int) + 1) + n + 1) % ((n : Int) + 1)).toNat, by omega, by omega⟩
theorem good_case (k : Nat) (hk : 3000 ≤ k) (a0 a1 a2 a3 a4 : Int) (hG : GG a0 a1 a2 a3 a4) (nz ga : Nat) (hz : a1 = nz + 3) (hga : a0 = ga) (L : List Lst) (hL : FineLL L) (hgo : Goes L nz ga a0 a1) (cut : Int) (hcut : -9223372036854775808 ≤ cut ∧ cut ≤ 9223372036854775807) (b1 b2 : Bool) (hkk : 100000 ≤ k) :
    BW_j0 (fun v => some v) k cut 0 0 a0 a1 a2 a3 a4 L b1 (zL L nz) b2 (mL L ga) (mxl L 0) (slot L) (cB L) true (zL L nz) true (mL L ga) (mxl L 0) (slot L) (cB L) = some true := by
  have hGG := hG
  unfold GG at hGG
  have hS := mx_bounds L hL
  have hl8 := hL.1
  have hlz := zL_len L nz
  have hlm := mL_len L ga
  have hrl := recs_len (mxl L 0) (zL L nz) (mL L ga) (cA L) (cB L)
  have again := again_val k hk a0 a1 a2 a3 a4 hG nz ga hz hga L hL hgo false
  unfold BW_j0
  rw [decide_eq_true (rfl : (0 : Int) = 0), Bool.not_true, cond_false, records_val k hk _ b1 _ b2 _ _ _ (by omega) (by omega) hS.1 (by omega), optb_some, refrec_val k hk _ true _ true _ _ _ (by omega) (by omega) hS.1 (by omega), optb_some, slot_back L hL]
  generalize recs (mxl L 0) (zL L nz) (mL L ga) (cA L) (cB L) = W at hrl again ⊢
  generalize zL L nz = Z at hlz hrl again ⊢
  generalize mL L ga = M at hlm hrl again ⊢
  generalize mxl L 0 = S at hS again ⊢
  dsimp only
  have hlw : lenI W = ((ga + nz + 1 : Nat) : Int) := by rw [lenI_eq, hrl, hlm, hlz]
  rw [decide_eq_true (rfl : lenI W = lenI W), Bool.not_true, cond_false, hlw, hlm, hlz, w64 (n := S + ((ga + nz + 1 : Nat) : Int)) (by omega) (by omega), decide_eq_true (show S + ga + nz + 1 = S + ((ga + nz + 1 : Nat) : Int) by omega), Bool.not_true]
  unfold BW_j1 BW_k1
  rw [cond_false]
  refine (show _ = _ from bw_l2 _ _ k W (by omega) W.length k 0 (by omega) (by omega)).trans ?_
  by_cases hbig : (1099511627776 : Int) < S + ga + nz + 1
  · rw [decide_eq_true hbig, cond_true]
  rw [decide_eq_false hbig, cond_false, hlw, w64 (n := ((ga + nz + 1 : Nat) : Int) + 1) (by omega) (by omega), decide_eq_false (show ¬ ((ga + nz + 1 : Nat) : Int) + 1 = 0 by omega), cond_false, cond_false]
  obtain ⟨c, hc, hcv⟩ := cut_in hcut (ga + nz + 1) (by omega)
  rw [hcv]
  unfold BW_j3
  have hX : List.take (lenI W - (c : Int)).toNat (List.drop (c : Int).toNat W) = W.drop c := by
    rw [Int.toNat_natCast, List.take_of_length_le (by rw [List.length_drop, hlw]; omega)]
  have hY : List.take ((c : Int) - 0).toNat (List.drop (0 : Int).toNat W) = W.take c := by
    rw [show ((c : Int) - 0).toNat = c by omega]; rfl
  dsimp only
  rw [hX, hY, decide_eq_true (show (0 : Int) ≤ c by omega), decide_eq_true (show (c : Int) ≤ lenI W by rw [hlw]; omega), decide_eq_true (Int.le_refl (lenI W)), Bool.and_self, Bool.and_self, cond_true, decide_eq_true (by rw [List.length_nil, List.length_singleton]; omega), cond_true, cond_true, decide_eq_true (by rw [List.length_singleton]; omega), cond_true, decide_eq_true (by rw [List.length_append, List.length_append, List.length_singleton, List.length_singleton, List.length_nil]; omega), cond_true]
  obtain ⟨c1, c2, hr⟩ := again (true && W.isEmpty) (true && W.isEmpty) c
  refine (congrArg (fun r => optb r _) (show book_Read k a0 a1 a2 a3 a4 false _ = _ from hr)).trans ?_
  rw [optb_some]
  unfold BW_j4
  dsimp only
  rw [decide_eq_true (rfl : (0 : Int) = 0), cond_true, hlw, w64 (n := S + ((ga + nz + 1 : Nat) : Int)) (by omega) (by omega), show S + ((ga + nz + 1 : Nat) : Int) = S + ga + nz + 1 by omega, same_self k (by omega) _ _ _ _ _ _ _ _ _ (by omega) (by omega), optb_some, cond_true, same_self k (by omega) _ _ _ _ _ _ _ _ _ (by omega) (by omega), optb_some]
theorem speaks_ok (d : Nat) : corbellaw10_speaks (d + 300) = some true := by kernel_rfl
theorem main (a0 a1 a2 a3 a4 : Int) (b : Bool) (LL : List (Bool × List In6)) (cut : Int) (hcut : -9223372036854775808 ≤ cut ∧ cut ≤ 9223372036854775807) : corbellaw10_BookWrites (199700 + 300) a0 a1 a2 a3 a4 b LL cut = some true := by
  obtain ⟨L, hL, hgiv⟩ := given_val (199700 + 300) (by omega) b LL
  unfold corbellaw10_BookWrites
  rw [speaks_ok, optb_some, Bool.not_true, cond_false, hgiv, optb_some]
  dsimp only
  by_cases hG : GG a0 a1 a2 a3 a4
  case neg =>
    have e1 : book_Read (199700 + 300) a0 a1 a2 a3 a4 true L = some (((0, ((true, []), ((true, []), (0, 0)))), 1) : Bk × Int) := by
      unfold book_Read
      rw [good_val, optb_some, decide_eq_false hG, Bool.not_false, cond_true]
    have e2 : corbelref10_Read (199700 + 300) a0 a1 a2 a3 a4 true L = some (((0, ((true, []), ((true, []), (0, 0)))), 1) : Bk × Int) := by
      unfold corbelref10_Read
      rw [refgood_val, optb_some, decide_eq_false hG, Bool.not_false, cond_true]
    rw [e1, optb_some, e2, optb_some]
    unfold BW_j0
    dsimp only
    rw [decide_eq_false (show ¬ (1 : Int) = 0 by omega), Bool.not_false, cond_true, decide_eq_true (rfl : (1 : Int) = 1)]
  have hGG := hG
  unfold GG at hGG
  obtain ⟨nz, hz⟩ : ∃ nz : Nat, a1 = nz + 3 := ⟨(a1 - 3).toNat, by omega⟩
  obtain ⟨ga, hga⟩ : ∃ ga : Nat, a0 = ga := ⟨a0.toNat, by omega⟩
  obtain ⟨p1, p2⟩ := book_val (199700 + 300) (by omega) a0 a1 a2 a3 a4 hG nz ga hz hga true L (bounds L hL)
  obtain ⟨q1, q2⟩ := ref_val (199700 + 300) (by omega) a0 a1 a2 a3 a4 hG nz ga hz hga true L hL
  by_cases c : Goes L nz ga a0 a1
  · obtain ⟨b1, b2, p1⟩ := p1 c
    rw [p1, optb_some, q1 c, optb_some]
    exact good_case (199700 + 300) (by omega) a0 a1 a2 a3 a4 hG nz ga hz hga L hL c cut hcut b1 b2 (by omega)
  · rw [p2 c, optb_some, q2 c, optb_some]
    unfold BW_j0 zero9
    dsimp only
    rw [decide_eq_false (show ¬ (9 : Int) = 0 by omega), Bool.not_false, cond_true, decide_eq_true (rfl : (9 : Int) = 9)]
/-- The records of any book that was read, and it is read of them again. -/
theorem BookWrites : BookWritesPure := by
  intro x0 x1 x2 h0 h1 h2
  exact ⟨199700 + 300, main x0.1 x0.2.1 x0.2.2.1 x0.2.2.2.1 x0.2.2.2.2 x1.1 x1.2 x2 (wf_i64 h2)⟩
end Go.Proofs.Ytbaikphpohdmoaa.Pure
