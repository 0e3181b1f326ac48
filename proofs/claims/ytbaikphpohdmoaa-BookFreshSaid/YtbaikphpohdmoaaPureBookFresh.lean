/- BookFresh: the pure statement, over numbers and lists alone; no conditions. -/
import Derived.Test.YtbaikphpohdmoaaStatBookFresh
set_option linter.unusedVariables false
set_option linter.unusedSimpArgs false
namespace Go.Proofs.Ytbaikphpohdmoaa.Pure
open Go Go.RowKit Go.Proofs.Ytbaikphpohdmoaa.Ev
/-! ### whole numbers -/
theorem wf_i64 {n : Int} (h : Ty.wf (.int .i64) n) : -9223372036854775808 ≤ n ∧ n ≤ 9223372036854775807 := by
  have h : (Lit.int .i64 n).wf = true := h
  simpa [Lit.wf, IntKind.min, IntKind.max, IntKind.signed, IntKind.bits] using h
theorem w64 {n : Int} (h0 : -9223372036854775808 ≤ n) (h1 : n ≤ 9223372036854775807) : wrap64 n = n := by unfold wrap64; omega
theorem tdiv_pos {a b : Int} (ha : 0 ≤ a) : Int.tdiv a b = a / b := Int.tdiv_eq_ediv_of_nonneg ha
theorem tmod_pos {a b : Int} (ha : 0 ≤ a) : Int.tmod a b = a % b := Int.tmod_eq_emod_of_nonneg ha
theorem bytesOf_append (a b : List Int) : bytesOf a ++ bytesOf b = bytesOf (a ++ b) := by
  apply ByteArray.ext
  simp [bytesOf]
theorem cond_t {α : Type} {c : Bool} {a b : α} (h : c = true) : (bif c then a else b) = a := by rw [h]; rfl
theorem cond_f {α : Type} {c : Bool} {a b : α} (h : c = false) : (bif c then a else b) = b := by rw [h]; rfl
theorem optb_some {α β : Type} (a : α) (f : α → Option β) : optb (some a) f = f a := rfl
theorem and_mask (x : Int) (i : Nat) (hi : i ≤ 62) : bitop .and .i64 x (2 ^ i - 1) = x % 2 ^ i := by
  have h2 : (2 : Nat) ^ i ≤ 2 ^ 62 := Nat.pow_le_pow_right (by decide) hi
  have h62 : (2 : Nat) ^ 62 = 4611686018427387904 := by decide
  have h64 : (2 : Nat) ^ 64 = 18446744073709551616 := by decide
  have hp : 0 < 2 ^ i := Nat.two_pow_pos i
  have hc : ((2 : Int) ^ i - 1) = ((2 ^ i - 1 : Nat) : Int) := by rw [Int.natCast_sub hp]; simp
  have hd : (2 ^ i : Nat) ∣ 2 ^ 64 := Nat.pow_dvd_pow 2 (by omega)
  have hb : IntKind.i64.bits = 64 := rfl
  have key : ((BitVec.ofInt 64 x &&& BitVec.ofInt 64 (2 ^ i - 1)).toNat : Int) = x % 2 ^ i := by
    rw [hc, BitVec.ofInt_natCast, BitVec.toNat_and, BitVec.toNat_ofNat, Nat.mod_eq_of_lt (show 2 ^ i - 1 < 2 ^ 64 by omega), Nat.and_two_pow_sub_one_eq_mod, BitVec.toNat_ofInt,
      Int.natCast_emod, Int.toNat_of_nonneg (Int.emod_nonneg _ (by decide)), Int.emod_emod_of_dvd]
    · simp
    · exact Int.natCast_dvd_natCast.2 hd
  have hlt : ((BitVec.ofInt 64 x &&& BitVec.ofInt 64 (2 ^ i - 1)).toNat : Int) < 4611686018427387904 := by
    rw [key]
    have : x % ((2 ^ i : Nat) : Int) < ((2 ^ i : Nat) : Int) := Int.emod_lt_of_pos _ (by omega)
    have e : ((2 ^ i : Nat) : Int) = (2 : Int) ^ i := by simp
    rw [e] at this
    have : (2 : Int) ^ i ≤ 4611686018427387904 := by rw [← e]; omega
    omega
  show IntKind.i64.wrap ((BitVec.ofInt 64 x &&& BitVec.ofInt 64 (2 ^ i - 1)).toNat : Int) = x % 2 ^ i
  rw [IntKind.wrap_i64]
  omega
/-! ### maps as lists of entries -/
theorem eqb_iff : ∀ (t : Ty) (x y : t.den), t.noSl = true → (t.eqb x y = true ↔ x = y) := eqb_eq
theorem mget_put {α : Type} {K : Ty} (hn : K.noSl = true) (k k' : K.den) (v : α) (c : Nat) : ∀ D : List (Nat × K.den × α), mget K (mput K k v c D) k' = bif K.eqb k' k then some v else mget K D k'
  | [] => by simp only [mput, mget]
  | d :: r => by
    simp only [mput]
    cases h : K.eqb k d.2.1 with
    | true =>
      rw [cond_true]
      simp only [mget]
      have e := (eqb_iff K _ _ hn).1 h
      rw [← e]
      cases K.eqb k' k <;> rfl
    | false =>
      rw [cond_false]
      simp only [mget]
      cases h2 : K.eqb k' d.2.1 with
      | true =>
        have e := (eqb_iff K _ _ hn).1 h2
        have : K.eqb k' k = false := by
          cases h3 : K.eqb k' k with
          | false => rfl
          | true =>
            have e3 := (eqb_iff K _ _ hn).1 h3
            rw [← e3, e] at h
            rw [(eqb_iff K _ _ hn).2 rfl] at h; cases h
        rw [this]; rfl
      | false => rw [cond_false]; exact mget_put hn k k' v c r
theorem mget_puti {α : Type} (k k' : Int) (v : α) (c : Nat) (D : List (Nat × Int × α)) : mget (.int .i64) (mput (.int .i64) k v c D) k' = if k' = k then some v else mget (.int .i64) D k' := by
  rw [mget_put (K := .int .i64) rfl]
  show (bif decide (k' = k) then _ else _) = _
  by_cases h : k' = k
  · rw [decide_eq_true h, if_pos h]; rfl
  · rw [decide_eq_false h, if_neg h]; rfl
/-! ### the shape of an array of drives -/
def GG (a0 a1 a2 a3 a4 : Int) : Prop := 3 ≤ a0 ∧ a0 ≤ 16 ∧ 5 ≤ a1 ∧ a1 ≤ 64 ∧ 4 ≤ a2 ∧ a2 ≤ 256 ∧ 1 ≤ a3 ∧ a3 ≤ a4 ∧ a4 ≤ a1
instance (a0 a1 a2 a3 a4 : Int) : Decidable (GG a0 a1 a2 a3 a4) := by unfold GG; infer_instance
theorem within_val (k : Nat) (n l h : Int) : geom_within k n l h = some (decide (l ≤ n ∧ n ≤ h)) := by
  unfold geom_within
  by_cases a : l ≤ n <;> simp [a]
theorem good_val (k : Nat) (a0 a1 a2 a3 a4 : Int) : geom_Good k a0 a1 a2 a3 a4 = some (decide (GG a0 a1 a2 a3 a4)) := by
  unfold geom_Good
  simp only [within_val, optb]
  by_cases h1 : 3 ≤ a0 ∧ a0 ≤ 16 <;> by_cases h2 : 5 ≤ a1 ∧ a1 ≤ 64 <;> by_cases h3 : 4 ≤ a2 ∧ a2 ≤ 256 <;> by_cases h4 : 1 ≤ a3 ∧ a3 ≤ a4 <;> simp only [h1, h2, h3, h4, decide_true, decide_false, cond_true, cond_false, Option.some.injEq, decide_eq_decide, and_self] <;> first | (unfold GG; omega) | (symm; rw [decide_eq_false_iff_not]; unfold GG; omega)
theorem refgood_val (k : Nat) (a0 a1 a2 a3 a4 : Int) : corbelref04_Good k a0 a1 a2 a3 a4 = some (decide (GG a0 a1 a2 a3 a4)) := by
  unfold corbelref04_Good corbelref04_Good_j0 corbelref04_Good_k0 corbelref04_Good_k1
  by_cases h1 : a0 < 3 <;> by_cases h2 : 16 < a0 <;> by_cases h3 : a1 < 5 <;> by_cases h4 : 64 < a1 <;> by_cases h5 : a2 < 4 <;> by_cases h6 : 256 < a2 <;> by_cases h7 : 0 < a3 <;> by_cases h8 : a3 ≤ a4 <;>
    simp only [h1, h2, h3, h4, h5, h6, h7, h8, decide_true, decide_false, cond_true, cond_false, Option.some.injEq, decide_eq_decide] <;> first | (unfold GG; omega) | (symm; rw [decide_eq_false_iff_not]; unfold GG; omega)
section
variable {a0 a1 a2 a3 a4 : Int}
theorem zones_yes (k : Nat) (h : GG a0 a1 a2 a3 a4) : geom_Zones k a0 a1 a2 a3 a4 = some (a1 - 3) := by
  unfold geom_Zones
  rw [good_val, decide_eq_true h]
  obtain ⟨_, _, h1, h2, _⟩ := h
  show some _ = _
  rw [w64 (n := a1 - 2) (by omega) (by omega), w64 (by omega) (by omega)]
  congr 1; omega
theorem zones_no (k : Nat) (h : ¬ GG a0 a1 a2 a3 a4) : geom_Zones k a0 a1 a2 a3 a4 = some 0 := by
  unfold geom_Zones
  rw [good_val, decide_eq_false h]; rfl
end
theorem mod_in2 {x c : Int} (hx : -9223372036854775808 ≤ x ∧ x ≤ 9223372036854775807) (c0 : 0 < c) (c1 : c ≤ 1000000) : 0 ≤ Int.tmod (wrap64 (Int.tmod x c + c)) c ∧ Int.tmod (wrap64 (Int.tmod x c + c)) c < c := by
  have m0 := Int.lt_tmod_of_pos x c0
  have m1 := Int.tmod_lt_of_pos x c0
  rw [w64 (n := Int.tmod x c + c) (by omega) (by omega), tmod_pos (by omega)]
  exact ⟨Int.emod_nonneg _ (by omega), Int.emod_lt_of_pos _ c0⟩
/-! ### lists of records, as both sides read them -/
abbrev Rec := Int × (Int × (Int × (Int × (Int × (Int × ByteArray)))))
abbrev Lst := Bool × List Rec
def Fine (x : Rec) : Prop := (3 ≤ x.1 ∧ x.1 ≤ 6) ∧ (0 ≤ x.2.1 ∧ x.2.1 < 1099511627776) ∧ (0 ≤ x.2.2.1 ∧ x.2.2.1 ≤ 65535) ∧ (0 ≤ x.2.2.2.1 ∧ x.2.2.2.1 ≤ 65535) ∧ (0 ≤ x.2.2.2.2.2.1 ∧ x.2.2.2.2.2.1 ≤ 65535)
def FineL (l : List Rec) : Prop := l.length ≤ 100 ∧ ∀ x ∈ l, Fine x
def FineLL (L : List Lst) : Prop := L.length ≤ 8 ∧ ∀ q ∈ L, FineL q.2
theorem drop_cons' {α : Type} {L : List α} {i : Nat} {p : α} {l : List α} (h : L.drop i = p :: l) : L[i]? = some p ∧ i < L.length ∧ L.drop (i + 1) = l := by
  have h1 : i < L.length := by
    rcases Nat.lt_or_ge i L.length with h' | h'
    · exact h'
    · rw [List.drop_eq_nil_of_le h'] at h; cases h
  rw [List.drop_eq_getElem_cons h1] at h
  obtain ⟨h2, h3⟩ := List.cons.inj h
  exact ⟨by rw [List.getElem?_eq_getElem h1, h2], h1, h3⟩
/-! ### the newest of those for which p holds -/
def stp (p : Rec → Bool) (o : Option Rec) (x : Rec) : Option Rec := bif p x then (match o with | none => some x | some b => bif decide (b.2.1 < x.2.1) then some x else o) else o
def nwl (p : Rec → Bool) (L : List Lst) (o : Option Rec) : Option Rec := L.foldl (fun o q => q.2.foldl (stp p) o) o
def Z7 : Rec := (0, (0, (0, (0, (0, (0, (⟨#[]⟩ : ByteArray)))))))
def pk (kind n : Int) (x : Rec) : Bool := decide (x.1 = kind) && (decide (n < 0) || decide (x.2.2.1 = n))
/-! ### the newest of each subject -/
abbrev K2 : Ty := .pair (.int .i64) (.int .i64)
def ofR (x : Rec) : Int × Int := if x.1 = 6 then (x.1, 0) else (x.1, x.2.2.1)
theorem of_val (k : Nat) (x : Rec) : book_of k x.1 x.2.1 x.2.2.1 x.2.2.2.1 x.2.2.2.2.1 x.2.2.2.2.2.1 x.2.2.2.2.2.2 = some (ofR x) := by
  unfold book_of ofR
  by_cases h : x.1 = 6
  · rw [decide_eq_true h, cond_true, if_pos h]
  · rw [decide_eq_false h, cond_false, if_neg h]
def kp (key : Int × Int) (x : Rec) : Bool := decide (ofR x = key)
def mxs (l : List Rec) (m : Int) : Int := l.foldl (fun m x => bif decide (x.2.1 > m) then x.2.1 else m) m
def mxl (L : List Lst) (m : Int) : Int := L.foldl (fun m q => mxs q.2 m) m
theorem mget_put2 (a b : Int × Int) (v : Rec) (c : Nat) (D : List (Nat × (Int × Int) × Rec)) : mget K2 (mput K2 a v c D) b = if b = a then some v else mget K2 D b := by
  rw [mget_put (K := K2) rfl]
  by_cases h : b = a
  · rw [if_pos h, (eqb_iff K2 b a rfl).2 h]; rfl
  · rw [if_neg h]
    cases hb : K2.eqb b a with
    | true => exact absurd ((eqb_iff K2 b a rfl).1 hb) h
    | false => rfl
theorem stp_key (D : List (Nat × (Int × Int) × Rec)) (x : Rec) (c : Nat) (D' : List (Nat × (Int × Int) × Rec)) (key : Int × Int)
    (h : D' = (bif (!(mhas K2 D (ofR x))) then mput K2 (ofR x) x c D else bif decide ((mval K2 Z7 D (ofR x)).2.1 < x.2.1) then mput K2 (ofR x) x c D else D)) :
    mget K2 D' key = stp (kp key) (mget K2 D key) x := by
  unfold stp kp
  by_cases hk : ofR x = key
  · rw [decide_eq_true hk, cond_true, h]
    cases hg : mget K2 D key with
    | none =>
      have : mhas K2 D (ofR x) = false := by unfold mhas; rw [hk, hg]; rfl
      rw [this, Bool.not_false, cond_true, mget_put2, if_pos hk.symm]
    | some b =>
      have h1 : mhas K2 D (ofR x) = true := by unfold mhas; rw [hk, hg]; rfl
      have h2 : mval K2 Z7 D (ofR x) = b := by unfold mval; rw [hk, hg]; rfl
      rw [h1, Bool.not_true, cond_false, h2]
      simp only
      by_cases hlt : b.2.1 < x.2.1
      · rw [decide_eq_true hlt, cond_true, cond_true, mget_put2, if_pos hk.symm]
      · rw [decide_eq_false hlt, cond_false, cond_false, hg]
  · rw [decide_eq_false hk, cond_false, h]
    have hp : mget K2 (mput K2 (ofR x) x c D) key = mget K2 D key := by rw [mget_put2, if_neg (fun e => hk e.symm)]
    cases mhas K2 D (ofR x) with
    | false => rw [Bool.not_false, cond_true, hp]
    | true =>
      rw [Bool.not_true, cond_false]
      cases decide ((mval K2 Z7 D (ofR x)).2.1 < x.2.1) with
      | true => rw [cond_true, hp]
      | false => rw [cond_false]
theorem new_l1 {R : Type} (e0 : Int → List (Nat × (Int × Int) × Rec) → Nat → Option R) (k : Nat) (q : List Rec) (hq : q.length ≤ 1000000) : ∀ (rest : List Rec) (j t : Nat) (m : Int) (D : List (Nat × (Int × Int) × Rec)) (c : Nat), q.drop t = rest → rest.length < j → t ≤ q.length →
    ∃ D' c', (∀ key, mget K2 D' key = rest.foldl (stp (kp key)) (mget K2 D key)) ∧ book_Read_i38_2_l1 e0 k q (lenI q) j m t D c = e0 (mxs rest m) D' c'
  | [], j, t, m, D, c, h, hj, ht => by
    obtain ⟨j, rfl⟩ : ∃ u, j = u + 1 := ⟨j - 1, by omega⟩
    have := congrArg List.length h
    rw [List.length_drop, List.length_nil] at this
    refine ⟨D, c, fun key => rfl, ?_⟩
    rw [book_Read_i38_2_l1]; unfold book_Read_i38_2_l1s
    rw [lenI_eq, decide_eq_false (by omega), cond_false]; rfl
  | x :: rest, j, t, m, D, c, h, hj, ht => by
    obtain ⟨j, rfl⟩ : ∃ u, j = u + 1 := ⟨j - 1, by omega⟩
    obtain ⟨h1, h2, h3⟩ := drop_cons' h
    rw [List.length_cons] at hj
    obtain ⟨Dn, hDn⟩ : ∃ Dn, Dn = (bif (!(mhas K2 D (ofR x))) then mput K2 (ofR x) x c D else bif decide ((mval K2 Z7 D (ofR x)).2.1 < x.2.1) then mput K2 (ofR x) x c D else D) := ⟨_, rfl⟩
    obtain ⟨cn, hcn⟩ : ∃ cn, cn = (bif (!(mhas K2 D (ofR x))) then mclk K2 D (ofR x) c else bif decide ((mval K2 Z7 D (ofR x)).2.1 < x.2.1) then mclk K2 D (ofR x) c else c) := ⟨_, rfl⟩
    obtain ⟨D', c', g1, g2⟩ := new_l1 e0 k q hq rest j (t + 1) (bif decide (x.2.1 > m) then x.2.1 else m) Dn cn h3 (by omega) (by omega)
    refine ⟨D', c', fun key => by rw [g1 key, stp_key D x c Dn key hDn]; rfl, ?_⟩
    show _ = e0 (mxs rest (bif decide (x.2.1 > m) then x.2.1 else m)) D' c'
    rw [← g2]
    rw [book_Read_i38_2_l1]; unfold book_Read_i38_2_l1s
    rw [lenI_eq, decide_eq_true (show (t : Int) < q.length by omega), cond_true, decide_eq_true (show (0 : Int) ≤ t by omega), cond_true, Int.toNat_natCast, h1, optb_some]
    try simp only
    rw [of_val, optb_some]
    have e1 : wrap64 ((t : Int) + 1) = ((t + 1 : Nat) : Int) := w64 (by omega) (by omega)
    have hz : (Ty.zero (.pair (.int .i64) (.pair (.int .i64) (.pair (.int .i64) (.pair (.int .i64) (.pair (.int .i64) (.pair (.int .i64) .str)))))) : Rec) = Z7 := rfl
    show (bif (!(mhas K2 D (ofR x))) then _ else _) = _
    cases hm : mhas K2 D (ofR x) with
    | false =>
      rw [hm] at hDn hcn
      rw [Bool.not_false, cond_true] at hDn hcn ⊢
      unfold book_Read_i38_2_j2
      rw [cond_true, of_val, optb_some]
      unfold book_Read_i38_2_j3
      rw [e1, hDn, hcn]
    | true =>
      rw [hm] at hDn hcn
      rw [Bool.not_true, cond_false] at hDn hcn ⊢
      unfold book_Read_i38_2_j2
      show (bif decide ((mval K2 Z7 D (ofR x)).2.1 < x.2.1) then _ else _) = _
      cases hd : decide ((mval K2 Z7 D (ofR x)).2.1 < x.2.1) with
      | true =>
        rw [hd, cond_true] at hDn hcn
        rw [cond_true, of_val, optb_some]
        unfold book_Read_i38_2_j3
        rw [e1, hDn, hcn]
      | false =>
        rw [hd, cond_false] at hDn hcn
        rw [cond_false]
        unfold book_Read_i38_2_j3
        rw [e1, hDn, hcn]
theorem new_l0 {R : Type} (e0 : Int → List (Nat × (Int × Int) × Rec) → Nat → Option R) (k : Nat) (hk : 1000 ≤ k) (L : List Lst) (hL : L.length ≤ 100 ∧ ∀ q ∈ L, q.2.length ≤ 900) : ∀ (rest : List Lst) (j i : Nat) (m : Int) (D : List (Nat × (Int × Int) × Rec)) (c : Nat), L.drop i = rest → rest.length < j → i ≤ L.length →
    ∃ D' c', (∀ key, mget K2 D' key = nwl (kp key) rest (mget K2 D key)) ∧ book_Read_i38_2_l0 e0 k L (lenI L) j m i D c = e0 (mxl rest m) D' c'
  | [], j, i, m, D, c, h, hj, hi => by
    obtain ⟨j, rfl⟩ : ∃ u, j = u + 1 := ⟨j - 1, by omega⟩
    have := congrArg List.length h
    rw [List.length_drop, List.length_nil] at this
    refine ⟨D, c, fun key => rfl, ?_⟩
    rw [book_Read_i38_2_l0]; unfold book_Read_i38_2_l0s
    rw [lenI_eq, decide_eq_false (by omega), cond_false]; rfl
  | q :: rest, j, i, m, D, c, h, hj, hi => by
    obtain ⟨j, rfl⟩ : ∃ u, j = u + 1 := ⟨j - 1, by omega⟩
    obtain ⟨h1, h2, h3⟩ := drop_cons' h
    rw [List.length_cons] at hj
    have hq := hL.2 q (List.mem_of_getElem? h1)
    obtain ⟨D1, c1, f1, f2⟩ := new_l1 (fun seq_34 ha_35 hb_36 => book_Read_i38_2_l0 e0 k L (lenI L) j seq_34 (wrap64 ((i : Int) + (1 : Int))) ha_35 hb_36) k q.2 (by omega) q.2 k 0 m D c List.drop_zero (by omega) (by omega)
    obtain ⟨D', c', g1, g2⟩ := new_l0 e0 k hk L hL rest j (i + 1) (mxs q.2 m) D1 c1 h3 (by omega) (by omega)
    refine ⟨D', c', fun key => by rw [g1 key, f1 key]; rfl, ?_⟩
    show _ = e0 (mxl rest (mxs q.2 m)) D' c'
    rw [← g2]
    rw [book_Read_i38_2_l0]; unfold book_Read_i38_2_l0s
    have hl : lenI L = (L.length : Int) := lenI_eq L
    rw [hl, decide_eq_true (show (i : Int) < L.length by omega), cond_true, decide_eq_true (show (0 : Int) ≤ i by omega), cond_true, Int.toNat_natCast, h1, optb_some, ← hl]
    refine Eq.trans f2 ?_
    rw [w64 (by omega) (by omega), show (i : Int) + 1 = ((i + 1 : Nat) : Int) by omega]
/-- One subject: as the map has it, and as the document finds it. -/
theorem nwl_congr (p p' : Rec → Bool) (L : List Lst) (h : ∀ q ∈ L, ∀ x ∈ q.2, p x = p' x) : ∀ o, nwl p L o = nwl p' L o := by
  have one : ∀ (l : List Rec), (∀ x ∈ l, p x = p' x) → ∀ o, l.foldl (stp p) o = l.foldl (stp p') o := by
    intro l
    induction l with
    | nil => intro _ o; rfl
    | cons x l ih =>
      intro hl o
      have hx : stp p o x = stp p' o x := by unfold stp; rw [hl x (List.mem_cons_self ..)]
      rw [List.foldl_cons, List.foldl_cons, hx]
      exact ih (fun y hy => hl y (List.mem_cons_of_mem _ hy)) _
  induction L with
  | nil => intro o; rfl
  | cons q L ih =>
    intro o
    show nwl p L (q.2.foldl (stp p) o) = nwl p' L (q.2.foldl (stp p') o)
    rw [one q.2 (h q (List.mem_cons_self ..)) o]
    exact ih (fun q' hq' => h q' (List.mem_cons_of_mem _ hq')) _
theorem kp_zone {z : Int} (hz : 0 ≤ z) (x : Rec) : pk 3 z x = kp (3, z) x := by
  unfold pk kp ofR
  rw [decide_eq_false (show ¬ z < 0 by omega), Bool.false_or]
  by_cases h : x.1 = 6
  · rw [if_pos h, decide_eq_false (by omega), Bool.false_and]
    exact (decide_eq_false (fun e => by have := congrArg Prod.fst e; simp at this; omega)).symm
  · rw [if_neg h]
    by_cases h1 : x.1 = 3
    · by_cases h2 : x.2.2.1 = z
      · rw [decide_eq_true h1, decide_eq_true h2, h1, h2]; simp
      · rw [decide_eq_true h1, decide_eq_false h2, decide_eq_false (fun e => h2 (congrArg Prod.snd e))]; rfl
    · rw [decide_eq_false h1, decide_eq_false (fun e => h1 (congrArg Prod.fst e)), Bool.false_and]
theorem kp_member {z : Int} (hz : 0 ≤ z) (x : Rec) : pk 5 z x = kp (5, z) x := by
  unfold pk kp ofR
  rw [decide_eq_false (show ¬ z < 0 by omega), Bool.false_or]
  by_cases h : x.1 = 6
  · rw [if_pos h, decide_eq_false (by omega), Bool.false_and]
    exact (decide_eq_false (fun e => by have := congrArg Prod.fst e; simp at this; omega)).symm
  · rw [if_neg h]
    by_cases h1 : x.1 = 5
    · by_cases h2 : x.2.2.1 = z
      · rw [decide_eq_true h1, decide_eq_true h2, h1, h2]; simp
      · rw [decide_eq_true h1, decide_eq_false h2, decide_eq_false (fun e => h2 (congrArg Prod.snd e))]; rfl
    · rw [decide_eq_false h1, decide_eq_false (fun e => h1 (congrArg Prod.fst e)), Bool.false_and]
theorem kp_cursor (x : Rec) : pk 6 (-1) x = kp (6, 0) x := by
  unfold pk kp ofR
  rw [decide_eq_true (show (-1 : Int) < 0 by omega), Bool.true_or, Bool.and_true]
  by_cases h : x.1 = 6
  · rw [if_pos h, decide_eq_true h, h]; simp
  · rw [if_neg h, decide_eq_false h]
    exact (decide_eq_false (fun e => h (congrArg Prod.fst e))).symm
/-- The record that is found bears what was asked for. -/
theorem nwl_has (p : Rec → Bool) (L : List Lst) : ∀ (o : Option Rec), (∀ x, o = some x → p x = true) → ∀ x, nwl p L o = some x → p x = true := by
  have one : ∀ (l : List Rec) (o : Option Rec), (∀ x, o = some x → p x = true) → ∀ x, l.foldl (stp p) o = some x → p x = true := by
    intro l
    induction l with
    | nil => intro o h; exact h
    | cons y l ih =>
      intro o h
      rw [List.foldl_cons]
      refine ih _ fun x hx => ?_
      unfold stp at hx
      cases hp : p y with
      | false => rw [hp, cond_false] at hx; exact h x hx
      | true =>
        rw [hp, cond_true] at hx
        cases o with
        | none => cases hx; exact hp
        | some b =>
          simp only at hx
          cases hd : decide (b.2.1 < y.2.1) with
          | true => rw [hd, cond_true] at hx; cases hx; exact hp
          | false => rw [hd, cond_false] at hx; exact h x hx
  induction L with
  | nil => intro o h; exact h
  | cons q L ih => intro o h; exact ih _ (one q.2 o h)
theorem nwl_mem (p : Rec → Bool) (P : Rec → Prop) (L : List Lst) (hL : ∀ q ∈ L, ∀ x ∈ q.2, P x) : ∀ (o : Option Rec), (∀ x, o = some x → P x) → ∀ x, nwl p L o = some x → P x := by
  have one : ∀ (l : List Rec), (∀ x ∈ l, P x) → ∀ (o : Option Rec), (∀ x, o = some x → P x) → ∀ x, l.foldl (stp p) o = some x → P x := by
    intro l
    induction l with
    | nil => intro _ o h; exact h
    | cons y l ih =>
      intro hl o h
      rw [List.foldl_cons]
      refine ih (fun x hx => hl x (List.mem_cons_of_mem _ hx)) _ fun x hx => ?_
      have hy := hl y (List.mem_cons_self ..)
      unfold stp at hx
      cases hp : p y with
      | false => rw [hp, cond_false] at hx; exact h x hx
      | true =>
        rw [hp, cond_true] at hx
        cases o with
        | none => cases hx; exact hy
        | some b =>
          simp only at hx
          cases hd : decide (b.2.1 < y.2.1) with
          | true => rw [hd, cond_true] at hx; cases hx; exact hy
          | false => rw [hd, cond_false] at hx; exact h x hx
  induction L with
  | nil => intro o h; exact h
  | cons q L ih => intro o h; exact ih (fun q' hq' => hL q' (List.mem_cons_of_mem _ hq')) _ (one q.2 (hL q (List.mem_cons_self ..)) o h)
/-! ### the book's beginning, what is wanted -/
abbrev Zn := Int × (Int × Int)
theorem newz_loop {R : Type} (e0 : List Zn → Option R) (k : Nat) {v : Nat} (hv : v ≤ 1000) : ∀ (n j i : Nat) (b : List Zn), i + n = v → n < j → b.length = i → ∃ b' : List Zn, b'.length = v ∧ book_New_l0 e0 k v j i b = e0 b'
  | 0, j, i, b, h, hj, hb => by
    obtain ⟨j, rfl⟩ : ∃ u, j = u + 1 := ⟨j - 1, by omega⟩
    refine ⟨b, by omega, ?_⟩
    rw [book_New_l0]; unfold book_New_l0s
    rw [decide_eq_false (by omega), cond_false]
  | n + 1, j, i, b, h, hj, hb => by
    obtain ⟨j, rfl⟩ : ∃ u, j = u + 1 := ⟨j - 1, by omega⟩
    obtain ⟨b', g1, g2⟩ := newz_loop e0 k hv n j (i + 1) (b ++ [((wrap64 ((i : Int) + 2)), (1, 0))]) (by omega) (by omega) (by rw [List.length_append, List.length_singleton, hb])
    refine ⟨b', g1, ?_⟩
    rw [← g2]
    rw [book_New_l0]; unfold book_New_l0s
    rw [decide_eq_true (show (i : Int) < v by omega), cond_true, decide_eq_true (by rw [List.length_singleton]; omega), cond_true, w64 (n := (i : Int) + 1) (by omega) (by omega), show (i : Int) + 1 = ((i + 1 : Nat) : Int) by omega]
theorem newm_loop {R : Type} (e0 : List Int → Option R) (k : Nat) {v : Nat} (hv : v ≤ 1000) : ∀ (n j i : Nat) (b : List Int), i + n = v → n < j → b.length = i → ∃ b' : List Int, b'.length = v ∧ book_New_l1 e0 k v j i b = e0 b'
  | 0, j, i, b, h, hj, hb => by
    obtain ⟨j, rfl⟩ : ∃ u, j = u + 1 := ⟨j - 1, by omega⟩
    refine ⟨b, by omega, ?_⟩
    rw [book_New_l1]; unfold book_New_l1s
    rw [decide_eq_false (by omega), cond_false]
  | n + 1, j, i, b, h, hj, hb => by
    obtain ⟨j, rfl⟩ : ∃ u, j = u + 1 := ⟨j - 1, by omega⟩
    obtain ⟨b', g1, g2⟩ := newm_loop e0 k hv n j (i + 1) (b ++ [(i : Int)]) (by omega) (by omega) (by rw [List.length_append, List.length_singleton, hb])
    refine ⟨b', g1, ?_⟩
    rw [← g2]
    rw [book_New_l1]; unfold book_New_l1s
    rw [decide_eq_true (show (i : Int) < v by omega), cond_true, decide_eq_true (by rw [List.length_singleton]; omega), cond_true, w64 (n := (i : Int) + 1) (by omega) (by omega), show (i : Int) + 1 = ((i + 1 : Nat) : Int) by omega]
theorem wantz_loop {R : Type} (e0 : List (Int × Int) → Option R) (k : Nat) {v : Nat} (hv : v ≤ 1000) (w0 : List (Int × Int)) (hw : w0.length ≤ 10) : ∀ (n j i : Nat), i + n = v → n < j → book_Read_l0 e0 k v j i (w0 ++ (List.range i).map fun z : Nat => ((3 : Int), (z : Int))) = e0 (w0 ++ (List.range v).map fun z : Nat => ((3 : Int), (z : Int)))
  | 0, j, i, h, hj => by
    obtain ⟨j, rfl⟩ : ∃ u, j = u + 1 := ⟨j - 1, by omega⟩
    rw [book_Read_l0]; unfold book_Read_l0s
    rw [decide_eq_false (by omega), cond_false, show i = v by omega]
  | n + 1, j, i, h, hj => by
    obtain ⟨j, rfl⟩ : ∃ u, j = u + 1 := ⟨j - 1, by omega⟩
    rw [← wantz_loop e0 k hv w0 hw n j (i + 1) (by omega) (by omega)]
    rw [book_Read_l0]; unfold book_Read_l0s
    rw [decide_eq_true (show (i : Int) < v by omega), cond_true, decide_eq_true (by rw [List.length_singleton, List.length_append, List.length_map, List.length_range]; omega), cond_true, w64 (n := (i : Int) + 1) (by omega) (by omega), show (i : Int) + 1 = ((i + 1 : Nat) : Int) by omega, List.range_succ, List.map_append, List.append_assoc]; rfl
theorem wantm_loop {R : Type} (e0 : List (Int × Int) → Option R) (k : Nat) {v : Nat} (hv : v ≤ 1000) (w0 : List (Int × Int)) (hw : w0.length ≤ 2000) : ∀ (n j i : Nat), i + n = v → n < j → book_Read_l1 e0 k v j i (w0 ++ (List.range i).map fun z : Nat => ((5 : Int), (z : Int))) = e0 (w0 ++ (List.range v).map fun z : Nat => ((5 : Int), (z : Int)))
  | 0, j, i, h, hj => by
    obtain ⟨j, rfl⟩ : ∃ u, j = u + 1 := ⟨j - 1, by omega⟩
    rw [book_Read_l1]; unfold book_Read_l1s
    rw [decide_eq_false (by omega), cond_false, show i = v by omega]
  | n + 1, j, i, h, hj => by
    obtain ⟨j, rfl⟩ : ∃ u, j = u + 1 := ⟨j - 1, by omega⟩
    rw [← wantm_loop e0 k hv w0 hw n j (i + 1) (by omega) (by omega)]
    rw [book_Read_l1]; unfold book_Read_l1s
    rw [decide_eq_true (show (i : Int) < v by omega), cond_true, decide_eq_true (by rw [List.length_singleton, List.length_append, List.length_map, List.length_range]; omega), cond_true, w64 (n := (i : Int) + 1) (by omega) (by omega), show (i : Int) + 1 = ((i + 1 : Nat) : Int) by omega, List.range_succ, List.map_append, List.append_assoc]; rfl
/-! ### a record more -/
theorem cloneZ (k : Nat) (b : Bool) (L : List Zn) (h : L.length ≤ 1000) : ∃ b', slices_Clone k b L = some (b', L) := by
  unfold slices_Clone
  cases hb : (b && L.isEmpty) with
  | true =>
    rw [Bool.and_eq_true] at hb
    obtain rfl := List.isEmpty_iff.1 hb.2
    exact ⟨true, by rw [cond_true]⟩
  | false => exact ⟨false, by rw [cond_false, decide_eq_true (by rw [List.length_nil]; omega), cond_true, List.nil_append]⟩
theorem cloneM (k : Nat) (b : Bool) (L : List Int) (h : L.length ≤ 1000) : ∃ b', slices_Clone_46 k b L = some (b', L) := by
  unfold slices_Clone_46
  cases hb : (b && L.isEmpty) with
  | true =>
    rw [Bool.and_eq_true] at hb
    obtain rfl := List.isEmpty_iff.1 hb.2
    exact ⟨true, by rw [cond_true]⟩
  | false => exact ⟨false, by rw [cond_false, decide_eq_true (by rw [List.length_nil]; omega), cond_true, List.nil_append]⟩
def noteN (k : Nat) (ba : Int) (bb : Bool) (Z : List Zn) (bd : Bool) (M : List Int) (bf bg : Int) (x : Rec) := book_Book_Note k ba bb Z bd M bf bg x.1 x.2.1 x.2.2.1 x.2.2.2.1 x.2.2.2.2.1 x.2.2.2.2.2.1 x.2.2.2.2.2.2
theorem note_cursor (k : Nat) (ba : Int) (bb : Bool) (Z : List Zn) (bd : Bool) (M : List Int) (bf bg : Int) (x : Rec) (hZ : Z.length ≤ 1000) (hM : M.length ≤ 1000) (hx : x.1 = 6) :
    ∃ ba' bb' bd', noteN k ba bb Z bd M bf bg x = some (ba', ((bb', Z), ((bd', M), (if x.2.2.1 = 65535 then -1 else x.2.2.1, x.2.2.2.1)))) := by
  obtain ⟨b1, h1⟩ := cloneZ k bb Z hZ
  obtain ⟨b2, h2⟩ := cloneM k bd M hM
  refine ⟨bif decide (x.2.1 > ba) then x.2.1 else ba, b1, b2, ?_⟩
  unfold noteN book_Book_Note
  rw [h1, optb_some, h2, optb_some, decide_eq_false (show ¬ x.1 = 3 by omega), cond_false]
  unfold book_Book_Note_j0
  rw [cond_false, decide_eq_false (show ¬ x.1 = 5 by omega), cond_false]
  unfold book_Book_Note_j1 book_Book_Note_k0 book_Book_Note_k1 book_Book_Note_j2
  rw [cond_false, decide_eq_true hx, cond_true]
  by_cases h : x.2.2.1 = 65535
  · rw [decide_eq_true h, cond_true, if_pos h]
  · rw [decide_eq_false h, cond_false, if_neg h]
theorem note_zone (k : Nat) (ba : Int) (bb : Bool) (Z : List Zn) (bd : Bool) (M : List Int) (bf bg : Int) (x : Rec) (hZ : Z.length ≤ 1000) (hM : M.length ≤ 1000) (hx : x.1 = 3) {z : Nat} (hz : x.2.2.1 = z) (hl : z < Z.length) :
    ∃ ba' bb' bd', noteN k ba bb Z bd M bf bg x = some (ba', ((bb', Z.set z (x.2.2.2.1, (x.2.2.2.2.1, x.2.2.2.2.2.1))), ((bd', M), (bf, bg)))) := by
  obtain ⟨b1, h1⟩ := cloneZ k bb Z hZ
  obtain ⟨b2, h2⟩ := cloneM k bd M hM
  refine ⟨bif decide (x.2.1 > ba) then x.2.1 else ba, b1, b2, ?_⟩
  unfold noteN book_Book_Note
  rw [h1, optb_some, h2, optb_some, decide_eq_true hx, cond_true, hz, decide_eq_true (show (0 : Int) ≤ z by omega), cond_true]
  try simp only
  unfold book_Book_Note_j0
  rw [lenI_eq, decide_eq_true (show (z : Int) < Z.length by omega), cond_true, decide_eq_true (show (0 : Int) ≤ z by omega), Bool.and_self, cond_true, Int.toNat_natCast, List.getElem?_eq_getElem hl, optb_some]
  rfl
theorem note_member (k : Nat) (ba : Int) (bb : Bool) (Z : List Zn) (bd : Bool) (M : List Int) (bf bg : Int) (x : Rec) (hZ : Z.length ≤ 1000) (hM : M.length ≤ 1000) (hx : x.1 = 5) {z : Nat} (hz : x.2.2.1 = z) (hl : z < M.length) :
    ∃ ba' bb' bd', noteN k ba bb Z bd M bf bg x = some (ba', ((bb', Z), ((bd', M.set z x.2.2.2.1), (bf, bg)))) := by
  obtain ⟨b1, h1⟩ := cloneZ k bb Z hZ
  obtain ⟨b2, h2⟩ := cloneM k bd M hM
  refine ⟨bif decide (x.2.1 > ba) then x.2.1 else ba, b1, b2, ?_⟩
  unfold noteN book_Book_Note
  rw [h1, optb_some, h2, optb_some, decide_eq_false (show ¬ x.1 = 3 by omega), cond_false]
  try simp only
  unfold book_Book_Note_j0
  rw [cond_false, decide_eq_true hx, cond_true, hz, decide_eq_true (show (0 : Int) ≤ z by omega), cond_true]
  unfold book_Book_Note_j1
  rw [lenI_eq, decide_eq_true (show (z : Int) < M.length by omega), cond_true, decide_eq_true (show (0 : Int) ≤ z by omega), Bool.and_self, cond_true, Int.toNat_natCast, List.getElem?_eq_getElem hl, optb_some]
  rfl
/-! ### all that is wanted, one after the other -/
def znOf (x : Rec) : Zn := (x.2.2.2.1, (x.2.2.2.2.1, x.2.2.2.2.2.1))
theorem l2_step {R : Type} (e0 : Int → Int → Int → Int → Bool → List Zn → Bool → List Int → Int → Int → Int → Option R) (e1 : Bool → List Zn → Bool → List Int → Int → Int → Int → Option R) (k : Nat) (D : List (Nat × (Int × Int) × Rec)) (W : List (Int × Int)) (hW : W.length ≤ 10000) (j i : Nat) (key : Int × Int) (hk : W[i]? = some key)
    (ba : Int) (bb : Bool) (Z : List Zn) (bd : Bool) (M : List Int) (bf bg : Int) :
    book_Read_l2 e0 e1 k (lenI W) D W (j + 1) i bb Z bd M ba bf bg = (match mget K2 D key with
      | none => e0 9 0 0 0 bb Z bd M ba bf bg
      | some x => optb (noteN k ba bb Z bd M bf bg x) fun r => book_Read_l2 e0 e1 k (lenI W) D W j ((i + 1 : Nat) : Int) r.2.1.1 r.2.1.2 r.2.2.1.1 r.2.2.1.2 r.1 r.2.2.2.1 r.2.2.2.2) := by
  have hi : i < W.length := (List.getElem?_eq_some_iff.1 hk).1
  have hl : lenI W = (W.length : Int) := lenI_eq W
  rw [book_Read_l2]; unfold book_Read_l2s
  rw [hl, decide_eq_true (show (i : Int) < W.length by omega), cond_true, decide_eq_true (show (0 : Int) ≤ i by omega), Bool.and_self, cond_true, Int.toNat_natCast, hk, optb_some, ← hl]
  have e1' : wrap64 ((i : Int) + 1) = ((i + 1 : Nat) : Int) := w64 (by omega) (by omega)
  show (bif (!(mhas K2 D key)) then _ else optb (noteN k ba bb Z bd M bf bg (mval K2 Z7 D key)) _) = _
  cases hg : mget K2 D key with
  | none =>
    have : mhas K2 D key = false := by unfold mhas; rw [hg]; rfl
    rw [this, Bool.not_false, cond_true]
  | some x =>
    have h1 : mhas K2 D key = true := by unfold mhas; rw [hg]; rfl
    have h2 : mval K2 Z7 D key = x := by unfold mval; rw [hg]; rfl
    rw [h1, Bool.not_true, cond_false, h2, e1']
theorem zones_stage {R : Type} (e0 : Int → Int → Int → Int → Bool → List Zn → Bool → List Int → Int → Int → Int → Option R) (e1 : Bool → List Zn → Bool → List Int → Int → Int → Int → Option R) (k : Nat) (D : List (Nat × (Int × Int) × Rec)) (W : List (Int × Int)) (hW : W.length ≤ 10000) (off nz : Nat) (hz : nz ≤ 1000) (hw : ∀ z, z < nz → W[off + z]? = some (3, (z : Int)))
    (hD : ∀ key x, mget K2 D key = some x → ofR x = key) (Q : Option R → Prop) (he : ∀ z, z < nz → mget K2 D (3, (z : Int)) = none → ∀ ba bb Z bd M bf bg, Q (e0 9 0 0 0 bb Z bd M ba bf bg)) (M : List Int) (hM : M.length ≤ 1000) (bf bg : Int) (j0 : Nat) :
    ∀ (n i : Nat) (ba : Int) (bb : Bool) (Z : List Zn) (bd : Bool), i + n = nz → Z.length = nz → (∀ z, z < i → ∃ x, mget K2 D (3, (z : Int)) = some x ∧ Z[z]? = some (znOf x)) →
      (∀ ba bb Z bd, Z.length = nz → (∀ z, z < nz → ∃ x, mget K2 D (3, (z : Int)) = some x ∧ Z[z]? = some (znOf x)) → Q (book_Read_l2 e0 e1 k (lenI W) D W j0 ((off + nz : Nat) : Int) bb Z bd M ba bf bg)) →
      ((∃ z, z < nz ∧ mget K2 D (3, (z : Int)) = none) → True) → Q (book_Read_l2 e0 e1 k (lenI W) D W (j0 + n) ((off + i : Nat) : Int) bb Z bd M ba bf bg)
  | 0, i, ba, bb, Z, bd, h, hZ, hz', hend, _ => by
    rw [Nat.add_zero, show i = nz by omega]
    exact hend ba bb Z bd hZ (by rw [show nz = i by omega]; exact hz')
  | n + 1, i, ba, bb, Z, bd, h, hZ, hz', hend, hx => by
    rw [show j0 + (n + 1) = (j0 + n) + 1 by omega, l2_step e0 e1 k D W hW (j0 + n) (off + i) _ (hw i (by omega))]
    cases hg : mget K2 D (3, (i : Int)) with
    | none => exact he i (by omega) hg _ _ _ _ _ _ _
    | some x =>
      have ho := hD _ x hg
      have h6 : ¬ x.1 = 6 := fun e => by
        unfold ofR at ho; rw [if_pos e] at ho; have := congrArg Prod.fst ho; simp at this; omega
      unfold ofR at ho
      rw [if_neg h6] at ho
      have hk3 : x.1 = 3 := congrArg Prod.fst ho
      have hA : x.2.2.1 = (i : Int) := congrArg Prod.snd ho
      obtain ⟨ba', bb', bd', hn⟩ := note_zone k ba bb Z bd M bf bg x (by omega) hM hk3 hA (by omega)
      simp only
      rw [hn, optb_some, show off + i + 1 = off + (i + 1) by omega]
      refine zones_stage e0 e1 k D W hW off nz hz hw hD Q he M hM bf bg j0 n (i + 1) ba' bb' _ bd' (by omega) (by rw [List.length_set]; exact hZ) (fun z hzi => ?_) hend hx
      by_cases e : z = i
      · subst e
        exact ⟨x, hg, List.getElem?_set_self (by omega)⟩
      · obtain ⟨y, h1, h2⟩ := hz' z (by omega)
        exact ⟨y, h1, by rw [List.getElem?_set_ne (fun e' => e e'.symm)]; exact h2⟩
theorem members_stage {R : Type} (e0 : Int → Int → Int → Int → Bool → List Zn → Bool → List Int → Int → Int → Int → Option R) (e1 : Bool → List Zn → Bool → List Int → Int → Int → Int → Option R) (k : Nat) (D : List (Nat × (Int × Int) × Rec)) (W : List (Int × Int)) (hW : W.length ≤ 10000) (off nz : Nat) (hz : nz ≤ 1000) (hw : ∀ z, z < nz → W[off + z]? = some (5, (z : Int)))
    (hD : ∀ key x, mget K2 D key = some x → ofR x = key) (Q : Option R → Prop) (he : ∀ z, z < nz → mget K2 D (5, (z : Int)) = none → ∀ ba bb Z bd M bf bg, Q (e0 9 0 0 0 bb Z bd M ba bf bg)) (Z : List Zn) (hM : Z.length ≤ 1000) (bf bg : Int) (j0 : Nat) :
    ∀ (n i : Nat) (ba : Int) (bb : Bool) (M : List Int) (bd : Bool), i + n = nz → M.length = nz → (∀ z, z < i → ∃ x, mget K2 D (5, (z : Int)) = some x ∧ M[z]? = some x.2.2.2.1) →
      (∀ ba bb M bd, M.length = nz → (∀ z, z < nz → ∃ x, mget K2 D (5, (z : Int)) = some x ∧ M[z]? = some x.2.2.2.1) → Q (book_Read_l2 e0 e1 k (lenI W) D W j0 ((off + nz : Nat) : Int) bb Z bd M ba bf bg)) →
      Q (book_Read_l2 e0 e1 k (lenI W) D W (j0 + n) ((off + i : Nat) : Int) bb Z bd M ba bf bg)
  | 0, i, ba, bb, M, bd, h, hZ, hz', hend => by
    rw [Nat.add_zero, show i = nz by omega]
    exact hend ba bb M bd hZ (by rw [show nz = i by omega]; exact hz')
  | n + 1, i, ba, bb, M, bd, h, hZ, hz', hend => by
    rw [show j0 + (n + 1) = (j0 + n) + 1 by omega, l2_step e0 e1 k D W hW (j0 + n) (off + i) _ (hw i (by omega))]
    cases hg : mget K2 D (5, (i : Int)) with
    | none => exact he i (by omega) hg _ _ _ _ _ _ _
    | some x =>
      have ho := hD _ x hg
      have h6 : ¬ x.1 = 6 := fun e => by
        unfold ofR at ho; rw [if_pos e] at ho; have := congrArg Prod.fst ho; simp at this; omega
      unfold ofR at ho
      rw [if_neg h6] at ho
      have hk3 : x.1 = 5 := congrArg Prod.fst ho
      have hA : x.2.2.1 = (i : Int) := congrArg Prod.snd ho
      obtain ⟨ba', bb', bd', hn⟩ := note_member k ba bb Z bd M bf bg x hM (by omega) hk3 hA (by omega)
      simp only
      rw [hn, optb_some, show off + i + 1 = off + (i + 1) by omega]
      refine members_stage e0 e1 k D W hW off nz hz hw hD Q he Z hM bf bg j0 n (i + 1) ba' bb' _ bd' (by omega) (by rw [List.length_set]; exact hZ) (fun z hzi => ?_) hend
      by_cases e : z = i
      · subst e
        exact ⟨x, hg, List.getElem?_set_self (by omega)⟩
      · obtain ⟨y, h1, h2⟩ := hz' z (by omega)
        exact ⟨y, h1, by rw [List.getElem?_set_ne (fun e' => e e'.symm)]; exact h2⟩
/-! ### something twice -/
theorem nodup_of_steps : ∀ (s : List Int), s.Pairwise (fun a b => a ≤ b) → (∀ j a b, s[j]? = some a → s[j + 1]? = some b → a ≠ b) → s.Nodup
  | [], _, _ => List.nodup_nil
  | a :: t, hp, h => by
    rw [List.pairwise_cons] at hp
    have ih := nodup_of_steps t hp.2 (fun j x y h1 h2 => h (j + 1) x y (by simpa using h1) (by simpa using h2))
    refine List.nodup_cons.2 ⟨fun hm => ?_, ih⟩
    cases t with
    | nil => cases hm
    | cons b t =>
      have h1 := hp.1 b (List.mem_cons_self ..)
      rcases List.mem_cons.1 hm with e | e
      · exact h 0 a b rfl rfl e
      · have h2 := (List.pairwise_cons.1 hp.2).1 a e
        exact h 0 a b rfl rfl (by omega)
theorem twice_val (k : Nat) (nl : Bool) (l : List Int) (h : l.length ≤ 1000000) : (l.Nodup → book_twice k nl l = some false) ∧ (¬ l.Nodup → book_twice k nl l = some true) := by
  have hs : (Tw.sorted l).Pairwise (fun a b => a ≤ b) := by
    have := List.pairwise_mergeSort (le := fun x y : Int => decide (x ≤ y)) (fun a b c h1 h2 => by simp only [decide_eq_true_eq] at *; omega) (fun a b => by simp only [Bool.or_eq_true, decide_eq_true_eq]; omega) l
    exact this.imp fun h => by simpa using h
  have hn : (Tw.sorted l).Nodup ↔ l.Nodup := (List.mergeSort_perm l _).nodup_iff
  have hlen := Tw.sorted_len l
  unfold book_twice
  rw [decide_eq_true h, cond_true]
  generalize Tw.sorted l = s at hs hn hlen ⊢
  have key : (Lib.compact s).length < l.length ↔ ∃ j, j < s.length ∧ Lib.keeps s.toArray j = false := by
    unfold Lib.compact Lib.compactUpTo
    rw [List.length_map, ← hlen]
    have h1 := List.length_filter_lt_length_iff_exists (p := Lib.keeps s.toArray) (l := List.range s.length)
    rw [List.length_range] at h1
    rw [h1]
    constructor
    · rintro ⟨x, hx, hk⟩; exact ⟨x, List.mem_range.1 hx, by simpa using hk⟩
    · rintro ⟨x, hx, hk⟩; exact ⟨x, List.mem_range.2 hx, by simp [hk]⟩
  refine ⟨fun hd => ?_, fun hd => ?_⟩
  · congr 1
    refine decide_eq_false fun hlt => ?_
    obtain ⟨j, hj, hk⟩ := key.1 hlt
    unfold Lib.keeps at hk
    have hk := of_decide_eq_false hk
    have h0 : j ≠ 0 := fun e => hk (.inl e)
    have he : s.toArray[j]! = s.toArray[j - 1]! := Classical.byContradiction fun e => hk (.inr e)
    have h1 : s.toArray[j]! = s[j] := by simp [hj]
    have h2 : s.toArray[j - 1]! = s[j - 1] := by simp [show j - 1 < s.length by omega]
    rw [h1, h2] at he
    have := (List.nodup_iff_pairwise_ne.1 (hn.2 hd))
    rw [List.pairwise_iff_getElem] at this
    exact this (j - 1) j (by omega) hj (by omega) he.symm
  · congr 1
    refine decide_eq_true (key.2 ?_)
    refine Classical.byContradiction fun hc => hd (hn.1 (nodup_of_steps s hs fun j a b h1 h2 e => hc ⟨j + 1, ?_, ?_⟩))
    · exact (List.getElem?_eq_some_iff.1 h2).1
    · unfold Lib.keeps
      have hj1 := (List.getElem?_eq_some_iff.1 h1).1
      have hj2 := (List.getElem?_eq_some_iff.1 h2).1
      refine decide_eq_false fun hor => ?_
      rcases hor with h3 | h3
      · omega
      · refine h3 ?_
        rw [Nat.add_sub_cancel]
        have e1 : s.toArray[j + 1]! = b := by simp [hj2, (List.getElem?_eq_some_iff.1 h2).2]
        have e2 : s.toArray[j]! = a := by simp [hj1, (List.getElem?_eq_some_iff.1 h1).2]
        rw [e1, e2, e]
theorem max_loop {R : Type} (e0 : Int → Option R) (k : Nat) (M : List Int) (hM : M.length ≤ 1000) : ∀ (rest : List Int) (j i : Nat) (m : Int), M.drop i = rest → rest.length < j → i ≤ M.length → m ∈ M →
    ∃ m', m' ∈ M ∧ m ≤ m' ∧ (∀ x ∈ rest, x ≤ m') ∧ slices_Max_l0 e0 k M j m i = e0 m'
  | [], j, i, m, h, hj, hi, hm => by
    obtain ⟨j, rfl⟩ : ∃ u, j = u + 1 := ⟨j - 1, by omega⟩
    have := congrArg List.length h
    rw [List.length_drop, List.length_nil] at this
    refine ⟨m, hm, Int.le_refl _, (fun x hx => by cases hx), ?_⟩
    rw [slices_Max_l0]; unfold slices_Max_l0s
    rw [lenI_eq, decide_eq_false (by omega), cond_false]
  | x :: rest, j, i, m, h, hj, hi, hm => by
    obtain ⟨j, rfl⟩ : ∃ u, j = u + 1 := ⟨j - 1, by omega⟩
    obtain ⟨h1, h2, h3⟩ := drop_cons' h
    rw [List.length_cons] at hj
    have hx := List.mem_of_getElem? h1
    obtain ⟨m', g1, g2, g3, g4⟩ := max_loop e0 k M hM rest j (i + 1) (bif decide (x > m) then x else m) h3 (by omega) (by omega) (by cases decide (x > m) <;> assumption)
    refine ⟨m', g1, ?_, fun y hy => ?_, ?_⟩
    · by_cases c : x > m
      · rw [decide_eq_true c, cond_true] at g2; omega
      · rw [decide_eq_false c, cond_false] at g2; exact g2
    · rcases List.mem_cons.1 hy with rfl | hy
      · by_cases c : y > m
        · rw [decide_eq_true c, cond_true] at g2; exact g2
        · rw [decide_eq_false c, cond_false] at g2; omega
      · exact g3 y hy
    · rw [← g4]
      rw [slices_Max_l0]; unfold slices_Max_l0s
      rw [lenI_eq, decide_eq_true (show (i : Int) < M.length by omega), cond_true, decide_eq_true (show (0 : Int) ≤ i by omega), cond_true, Int.toNat_natCast, h1, optb_some, w64 (by omega) (by omega), show (i : Int) + 1 = ((i + 1 : Nat) : Int) by omega]
theorem max_val (k : Nat) (hk : 2000 ≤ k) (b : Bool) (M : List Int) (hM : M.length ≤ 1000) (h0 : 0 < M.length) : ∃ m, m ∈ M ∧ (∀ x ∈ M, x ≤ m) ∧ slices_Max k b M = some m := by
  cases M with
  | nil => simp at h0
  | cons a M =>
    obtain ⟨m, g1, g2, g3, g4⟩ := max_loop (fun m => some m) k (a :: M) hM M k 1 a rfl (by simp at hM; omega) (by simp) (List.mem_cons_self ..)
    refine ⟨m, g1, fun x hx => ?_, ?_⟩
    · rcases List.mem_cons.1 hx with rfl | hx
      · exact g2
      · exact g3 x hx
    · unfold slices_Max
      rw [lenI_eq, decide_eq_false (by simp; omega), cond_false]
      exact g4
/-! ### may there be such a book? -/
def okZ (gb : Int) (x : Zn) : Prop := 2 ≤ x.1 ∧ x.1 < gb ∧ x.2.2 ≤ 2
theorem can_l0 {R : Type} (e0 : Bool → List Int → Option R) (e1 : List Int → Option R) (k : Nat) (gb : Int) (Z : List Zn) (hZ : Z.length ≤ 1000) (r : Option R) (he : ∀ p, e0 false p = r) : ∀ (rest : List Zn) (j i : Nat) (p : List Int), Z.drop i = rest → rest.length < j → i ≤ Z.length → p.length = i →
    ((∀ x ∈ rest, okZ gb x) → book_Book_can_l0 e0 e1 k Z (lenI Z) gb j i p = e1 (p ++ rest.map (·.1))) ∧ (¬ (∀ x ∈ rest, okZ gb x) → book_Book_can_l0 e0 e1 k Z (lenI Z) gb j i p = r)
  | [], j, i, p, h, hj, hi, hp => by
    obtain ⟨j, rfl⟩ : ∃ u, j = u + 1 := ⟨j - 1, by omega⟩
    have := congrArg List.length h
    rw [List.length_drop, List.length_nil] at this
    refine ⟨fun _ => ?_, fun hn => absurd (fun x hx => by cases hx) hn⟩
    rw [book_Book_can_l0]; unfold book_Book_can_l0s
    rw [lenI_eq, decide_eq_false (by omega), cond_false, List.map_nil, List.append_nil]
  | x :: rest, j, i, p, h, hj, hi, hp => by
    obtain ⟨j, rfl⟩ : ∃ u, j = u + 1 := ⟨j - 1, by omega⟩
    obtain ⟨h1, h2, h3⟩ := drop_cons' h
    rw [List.length_cons] at hj
    obtain ⟨g1, g2⟩ := can_l0 e0 e1 k gb Z hZ r he rest j (i + 1) (p ++ [x.1]) h3 (by omega) (by omega) (by rw [List.length_append, List.length_singleton, hp])
    have hl : lenI Z = (Z.length : Int) := lenI_eq Z
    have step : (okZ gb x → book_Book_can_l0 e0 e1 k Z (lenI Z) gb (j + 1) i p = book_Book_can_l0 e0 e1 k Z (lenI Z) gb j ((i + 1 : Nat) : Int) (p ++ [x.1])) ∧ (¬ okZ gb x → book_Book_can_l0 e0 e1 k Z (lenI Z) gb (j + 1) i p = r) := by
      rw [book_Book_can_l0]; unfold book_Book_can_l0s
      rw [hl, decide_eq_true (show (i : Int) < Z.length by omega), cond_true, decide_eq_true (show (0 : Int) ≤ i by omega), cond_true, Int.toNat_natCast, h1, optb_some]
      unfold okZ
      by_cases c1 : x.1 < 2
      · rw [decide_eq_true c1, cond_true]
        unfold book_Book_can_j1 book_Book_can_k0
        rw [cond_true]
        exact ⟨fun e => by omega, fun _ => he _⟩
      · rw [decide_eq_false c1, cond_false]
        by_cases c2 : gb ≤ x.1
        · rw [decide_eq_true c2, cond_true]
          unfold book_Book_can_j1 book_Book_can_k0
          rw [cond_true]
          exact ⟨fun e => by omega, fun _ => he _⟩
        · rw [decide_eq_false c2, cond_false]
          unfold book_Book_can_j1 book_Book_can_k0
          by_cases c3 : 2 < x.2.2
          · rw [decide_eq_true c3, cond_true]
            exact ⟨fun e => by omega, fun _ => he _⟩
          · rw [decide_eq_false c3, cond_false]
            unfold book_Book_can_k1
            rw [decide_eq_true (by rw [List.length_singleton]; omega), cond_true, w64 (by omega) (by omega), show (i : Int) + 1 = ((i + 1 : Nat) : Int) by omega]
            exact ⟨fun _ => rfl, fun e => absurd ⟨by omega, by omega, by omega⟩ e⟩
    constructor
    · intro hall
      rw [step.1 (hall x (List.mem_cons_self ..)), g1 (fun y hy => hall y (List.mem_cons_of_mem _ hy)), List.append_assoc]; rfl
    · intro hn
      by_cases hx : okZ gb x
      · rw [step.1 hx]
        exact g2 fun hr => hn fun y hy => by
          rcases List.mem_cons.1 hy with rfl | hy
          · exact hx
          · exact hr y hy
      · exact step.2 hx
def CanP (ga gb : Int) (Z : List Zn) (M : List Int) (bf bg : Int) : Prop := (∀ x ∈ Z, okZ gb x) ∧ (Z.map (·.1)).Nodup ∧ M.Nodup ∧ (∀ x ∈ M, x ≤ ga) ∧ bf < ga ∧ bg ≤ gb
theorem can_val (k : Nat) (hk : 2000 ≤ k) (ba : Int) (bb : Bool) (Z : List Zn) (bd : Bool) (M : List Int) (bf bg ga gb gc gd ge : Int) (hZ : Z.length ≤ 1000) (hM : M.length ≤ 1000) (h0 : 0 < M.length) :
    (CanP ga gb Z M bf bg → book_Book_can k ba bb Z bd M bf bg ga gb gc gd ge = some true) ∧ (¬ CanP ga gb Z M bf bg → book_Book_can k ba bb Z bd M bf bg ga gb gc gd ge = some false) := by
  obtain ⟨g1, g2⟩ := can_l0 (fun v _ => some v) (fun phys_41 => book_Book_can_j2 (fun v_42 => some v_42) k bd M bf bg ga gb true phys_41) k gb Z hZ (some false) (fun _ => rfl) Z k 0 [] List.drop_zero (by omega) (by omega) rfl
  unfold CanP
  by_cases c1 : ∀ x ∈ Z, okZ gb x
  · have e : book_Book_can k ba bb Z bd M bf bg ga gb gc gd ge = book_Book_can_j2 (fun v_42 => some v_42) k bd M bf bg ga gb true (Z.map (·.1)) := by
      unfold book_Book_can; exact g1 c1
    rw [e]
    unfold book_Book_can_j2
    obtain ⟨t1, t2⟩ := twice_val k true (Z.map (·.1)) (by rw [List.length_map]; omega)
    by_cases c2 : (Z.map (·.1)).Nodup
    · rw [t1 c2, optb_some, cond_false]
      obtain ⟨t3, t4⟩ := twice_val k bd M (by omega)
      by_cases c3 : M.Nodup
      · rw [t3 c3, optb_some, cond_false]
        obtain ⟨m, m1, m2, m3⟩ := max_val k hk bd M hM h0
        rw [m3, optb_some]
        unfold book_Book_can_j3 book_Book_can_k2 book_Book_can_k3
        by_cases c4 : ga < m
        · rw [decide_eq_true c4, cond_true]
          exact ⟨fun h => by have := h.2.2.2.1 m m1; omega, fun _ => rfl⟩
        · rw [decide_eq_false c4, cond_false]
          by_cases c5 : bf < ga
          · rw [decide_eq_true c5, cond_true]
            exact ⟨fun h => by rw [decide_eq_true h.2.2.2.2.2], fun h => by rw [decide_eq_false fun c6 => h ⟨c1, c2, c3, fun x hx => by have := m2 x hx; omega, c5, c6⟩]⟩
          · rw [decide_eq_false c5, cond_false]
            exact ⟨fun h => absurd h.2.2.2.2.1 c5, fun _ => rfl⟩
      · rw [t4 c3, optb_some, cond_true]
        unfold book_Book_can_j3 book_Book_can_k2
        exact ⟨fun h => absurd h.2.2.1 c3, fun _ => rfl⟩
    · rw [t2 c2, optb_some, cond_true]
      unfold book_Book_can_j3 book_Book_can_k2
      exact ⟨fun h => absurd h.2.1 c2, fun _ => rfl⟩
  · have e : book_Book_can k ba bb Z bd M bf bg ga gb gc gd ge = some false := by
      unfold book_Book_can; exact g2 c1
    rw [e]
    exact ⟨fun h => absurd h.1 c1, fun _ => rfl⟩
/-! ### what the lists tell -/
def zO (L : List Lst) (z : Nat) : Option Rec := nwl (pk 3 z) L none
def mO (L : List Lst) (z : Nat) : Option Rec := nwl (pk 5 z) L none
def cO (L : List Lst) : Option Rec := nwl (pk 6 (-1)) L none
def zL (L : List Lst) (n : Nat) : List Zn := (List.range n).map fun z => znOf ((zO L z).getD Z7)
def mL (L : List Lst) (n : Nat) : List Int := (List.range n).map fun z => ((mO L z).getD Z7).2.2.2.1
abbrev Bk := Int × ((Bool × List Zn) × ((Bool × List Int) × (Int × Int)))
def zero9 : Bk × Int := ((0, ((true, []), ((true, []), (0, 0)))), 9)
/-- What the lists must hold, and the book that they make. -/
def Present (L : List Lst) (nz ga : Nat) : Prop := (cO L).isSome = true ∧ (∀ z, z < nz → (zO L z).isSome = true) ∧ ∀ z, z < ga → (mO L z).isSome = true
def cA (L : List Lst) : Int := ((cO L).getD Z7).2.2.1
def cB (L : List Lst) : Int := ((cO L).getD Z7).2.2.2.1
def slot (L : List Lst) : Int := if cA L = 65535 then -1 else cA L
def Goes (L : List Lst) (nz ga : Nat) (gaI gbI : Int) : Prop := Present L nz ga ∧ CanP gaI gbI (zL L nz) (mL L ga) (slot L) (cB L) ∧ (cA L = 65535 → cB L = 0)
def bookN (L : List Lst) (nz ga : Nat) (b c : Bool) : Bk × Int := ((mxl L 0, ((b, zL L nz), ((c, mL L ga), (slot L, cB L)))), 0)
theorem zL_len (L : List Lst) (n : Nat) : (zL L n).length = n := by unfold zL; rw [List.length_map, List.length_range]
theorem mL_len (L : List Lst) (n : Nat) : (mL L n).length = n := by unfold mL; rw [List.length_map, List.length_range]
theorem bounds (L : List Lst) (hL : FineLL L) : (L.length ≤ 100 ∧ ∀ q ∈ L, q.2.length ≤ 900) := ⟨by have := hL.1; omega, fun q hq => by have := (hL.2 q hq).1; omega⟩
theorem c_fine (L : List Lst) (hL : FineLL L) : 0 ≤ cA L ∧ cA L ≤ 65535 := by
  unfold cA
  cases h : cO L with
  | none => exact ⟨by decide, by decide⟩
  | some x =>
    have := nwl_mem (pk 6 (-1)) Fine L (fun q hq y hy => (hL.2 q hq).2 y hy) none (fun y hy => by cases hy) x h
    exact this.2.2.1
theorem new_val (k : Nat) (hk : 3000 ≤ k) (a0 a1 a2 a3 a4 : Int) (hG : GG a0 a1 a2 a3 a4) (nz ga : Nat) (hz : a1 = nz + 3) (hga : a0 = ga) :
    ∃ (Z0 : List Zn) (M0 : List Int), Z0.length = nz ∧ M0.length = ga ∧ book_New k a0 a1 a2 a3 a4 = some (0, ((true, Z0), ((true, M0), (-1, 0)))) := by
  have hGG := hG
  unfold GG at hGG
  unfold book_New
  rw [zones_yes k hG, optb_some, show a1 - 3 = (nz : Int) by omega]
  generalize hE : (fun b_412 : List Zn => optb _ _) = E
  obtain ⟨Z0, z1, z2⟩ := newz_loop E k (v := nz) (by omega) nz k 0 [] (by omega) (by omega) rfl
  obtain ⟨M0, m1, m2⟩ := newm_loop (fun b_445 => book_New_j2 (some ((0 : Int), ((true, Z0), ((true, b_445), ((-1 : Int), (0 : Int)))))) k) k (v := ga) (by omega) ga k 0 [] (by omega) (by omega) rfl
  refine ⟨Z0, M0, z1, m1, (show _ = _ from z2).trans ?_⟩
  rw [← hE]
  simp only
  rw [good_val, optb_some, decide_eq_true hG, cond_true, hga]
  exact m2
def wants (nz ga : Nat) : List (Int × Int) := ([((6 : Int), (0 : Int))] ++ (List.range nz).map fun z : Nat => ((3 : Int), (z : Int))) ++ (List.range ga).map fun z : Nat => ((5 : Int), (z : Int))
theorem wants_len (nz ga : Nat) : (wants nz ga).length = 1 + nz + ga := by
  unfold wants
  rw [List.length_append, List.length_append, List.length_map, List.length_map, List.length_range, List.length_range, List.length_singleton]
theorem wants_c (nz ga : Nat) : (wants nz ga)[0]? = some (6, 0) := rfl
theorem wants_z (nz ga z : Nat) (h : z < nz) : (wants nz ga)[1 + z]? = some (3, (z : Int)) := by
  unfold wants
  rw [List.getElem?_append_left (by rw [List.length_append, List.length_map, List.length_range, List.length_singleton]; omega), List.getElem?_append_right (by rw [List.length_singleton]; omega), List.length_singleton, show 1 + z - 1 = z by omega, List.getElem?_map, List.getElem?_range h]; rfl
theorem wants_m (nz ga z : Nat) (h : z < ga) : (wants nz ga)[(1 + nz) + z]? = some (5, (z : Int)) := by
  unfold wants
  rw [List.getElem?_append_right (by rw [List.length_append, List.length_map, List.length_range, List.length_singleton]; omega), List.length_append, List.length_map, List.length_range, List.length_singleton, show (1 + nz) + z - (1 + nz) = z by omega, List.getElem?_map, List.getElem?_range h]; rfl
theorem l2_all {R : Type} (e0 : Int → Int → Int → Int → Bool → List Zn → Bool → List Int → Int → Int → Int → Option R) (e1 : Bool → List Zn → Bool → List Int → Int → Int → Int → Option R) (k : Nat) (L : List Lst) (D : List (Nat × (Int × Int) × Rec)) (hm : ∀ key, mget K2 D key = nwl (kp key) L none)
    (nz ga : Nat) (hz : nz ≤ 1000) (hg : ga ≤ 1000) (J : Nat) (hJ : 3000 ≤ J) (ba : Int) (bb : Bool) (Z0 : List Zn) (bd : Bool) (M0 : List Int) (bf bg : Int) (hZ : Z0.length = nz) (hM : M0.length = ga) (Q : Option R → Prop)
    (h9 : ¬ Present L nz ga → ∀ ba bb Z bd M bf bg, Q (e0 9 0 0 0 bb Z bd M ba bf bg)) (h1 : Present L nz ga → ∀ ba bb bd, Q (e1 bb (zL L nz) bd (mL L ga) ba (slot L) (cB L))) :
    Q (book_Read_l2 e0 e1 k (lenI (wants nz ga)) D (wants nz ga) J 0 bb Z0 bd M0 ba bf bg) := by
  have hW : (wants nz ga).length ≤ 10000 := by rw [wants_len]; omega
  have hD : ∀ key x, mget K2 D key = some x → ofR x = key := fun key x hx => by
    rw [hm] at hx
    exact of_decide_eq_true (nwl_has (kp key) L none (fun _ h => by cases h) x hx)
  have kc : mget K2 D (6, 0) = cO L := by rw [hm]; unfold cO; exact (nwl_congr _ _ L (fun _ _ x _ => kp_cursor x) none).symm
  have kz : ∀ z : Nat, mget K2 D (3, (z : Int)) = zO L z := fun z => by rw [hm]; unfold zO; exact (nwl_congr _ _ L (fun _ _ x _ => kp_zone (by omega) x) none).symm
  have km : ∀ z : Nat, mget K2 D (5, (z : Int)) = mO L z := fun z => by rw [hm]; unfold mO; exact (nwl_congr _ _ L (fun _ _ x _ => kp_member (by omega) x) none).symm
  obtain ⟨j0, rfl⟩ : ∃ j0, J = (((j0 + 1) + ga) + nz) + 1 := ⟨J - (ga + nz + 2), by omega⟩
  have hs := l2_step e0 e1 k D (wants nz ga) hW (((j0 + 1) + ga) + nz) 0 _ (wants_c nz ga) ba bb Z0 bd M0 bf bg
  rw [show ((0 : Nat) : Int) = 0 from rfl] at hs
  rw [hs, kc]
  cases hc : cO L with
  | none => exact h9 (fun h => by have := h.1; rw [hc] at this; cases this) _ _ _ _ _ _ _
  | some x =>
    have ho : ofR x = (6, 0) := hD _ x (by rw [kc]; exact hc)
    have h6 : x.1 = 6 := by
      unfold ofR at ho
      by_cases e : x.1 = 6
      · exact e
      · rw [if_neg e] at ho; exact congrArg Prod.fst ho
    obtain ⟨ba1, bb1, bd1, hn⟩ := note_cursor k ba bb Z0 bd M0 bf bg x (by omega) (by omega) h6
    simp only
    rw [hn, optb_some]
    simp only
    have hA : (if x.2.2.1 = 65535 then -1 else x.2.2.1) = slot L := by unfold slot cA; rw [hc]; rfl
    have hB : x.2.2.2.1 = cB L := by unfold cB; rw [hc]; rfl
    rw [hA, hB]
    refine zones_stage e0 e1 k D (wants nz ga) hW 1 nz hz (fun z h => wants_z nz ga z h) hD Q (fun z hzz hno => h9 fun h => ?_) M0 (by omega) (slot L) (cB L) ((j0 + 1) + ga) nz 0 ba1 bb1 Z0 bd1 (by omega) hZ (fun z h => by omega) (fun ba bb Z bd hZl hZz => ?_) (fun _ => trivial)
    · have := h.2.1 z hzz
      rw [kz] at hno; rw [hno] at this; cases this
    have eZ : Z = zL L nz := by
      refine List.ext_getElem? fun z => ?_
      by_cases hzn : z < nz
      · obtain ⟨y, y1, y2⟩ := hZz z hzn
        rw [kz] at y1
        unfold zL
        rw [y2, List.getElem?_map, List.getElem?_range hzn, Option.map_some, y1]; rfl
      · rw [List.getElem?_eq_none (by omega), List.getElem?_eq_none (by rw [zL_len]; omega)]
    refine members_stage e0 e1 k D (wants nz ga) hW (1 + nz) ga hg (fun z h => wants_m nz ga z h) hD Q (fun z hzz hno => h9 fun h => ?_) Z (by omega) (slot L) (cB L) (j0 + 1) ga 0 ba bb M0 bd (by omega) hM (fun z h => by omega) (fun ba bb M bd hMl hMz => ?_)
    · have := h.2.2 z hzz
      rw [km] at hno; rw [hno] at this; cases this
    have eM : M = mL L ga := by
      refine List.ext_getElem? fun z => ?_
      by_cases hzn : z < ga
      · obtain ⟨y, y1, y2⟩ := hMz z hzn
        rw [km] at y1
        unfold mL
        rw [y2, List.getElem?_map, List.getElem?_range hzn, Option.map_some, y1]; rfl
      · rw [List.getElem?_eq_none (by omega), List.getElem?_eq_none (by rw [mL_len]; omega)]
    rw [book_Read_l2]; unfold book_Read_l2s
    rw [lenI_eq, wants_len, decide_eq_false (by omega), cond_false, eZ, eM]
    refine h1 ⟨by rw [hc]; rfl, fun z h => ?_, fun z h => ?_⟩ _ _ _
    · obtain ⟨y, y1, _⟩ := hZz z h
      rw [← kz, y1]; rfl
    · obtain ⟨y, y1, _⟩ := hMz z h
      rw [← km, y1]; rfl
theorem book_val (k : Nat) (hk : 3000 ≤ k) (a0 a1 a2 a3 a4 : Int) (hG : GG a0 a1 a2 a3 a4) (nz ga : Nat) (hz : a1 = nz + 3) (hga : a0 = ga) (b : Bool) (L : List Lst) (hb : L.length ≤ 100 ∧ ∀ q ∈ L, q.2.length ≤ 900) :
    (Goes L nz ga a0 a1 → ∃ b1 b2, book_Read k a0 a1 a2 a3 a4 b L = some (bookN L nz ga b1 b2)) ∧ (¬ Goes L nz ga a0 a1 → book_Read k a0 a1 a2 a3 a4 b L = some zero9) := by
  have hGG := hG
  unfold GG at hGG
  unfold book_Read
  rw [good_val, optb_some, decide_eq_true hG, Bool.not_true, cond_false]
  generalize hE : (fun (seq_68 : Int) (ha_78 : List (Nat × (Int × Int) × Rec)) (hb_79 : Nat) => _) = E
  obtain ⟨D, c, hD, hn⟩ := new_l0 E k (by omega) L hb L k 0 0 [] 0 List.drop_zero (by have := hb.1; omega) (by omega)
  have hn : book_Read_i38_2_l0 E k L (lenI L) k 0 0 [] 0 = E (mxl L 0) D c := hn
  rw [hn, ← hE]
  simp only
  obtain ⟨Z0, M0, hZ0, hM0, hnew⟩ := new_val k hk a0 a1 a2 a3 a4 hG nz ga hz hga
  rw [hnew, optb_some]
  simp only
  clear hn hE
  have hlz : lenI Z0 = (nz : Int) := by rw [lenI_eq, hZ0]
  have hlm : lenI M0 = (ga : Int) := by rw [lenI_eq, hM0]
  rw [hlz, hlm]
  have hwz := fun (e0 : List (Int × Int) → Option (Bk × Int)) => wantz_loop e0 k (v := nz) (by omega) [((6 : Int), (0 : Int))] (by simp) nz k 0 (by omega) (by omega)
  have hwz : ∀ (e0 : List (Int × Int) → Option (Bk × Int)), book_Read_l0 e0 k nz k 0 [((6 : Int), (0 : Int))] = e0 ([((6 : Int), (0 : Int))] ++ (List.range nz).map fun z : Nat => ((3 : Int), (z : Int))) := hwz
  have hwm : ∀ (e0 : List (Int × Int) → Option (Bk × Int)), book_Read_l1 e0 k ga k 0 ([((6 : Int), (0 : Int))] ++ (List.range nz).map fun z : Nat => ((3 : Int), (z : Int))) = e0 (wants nz ga) := fun e0 => by
    have := wantm_loop e0 k (v := ga) (by omega) ([((6 : Int), (0 : Int))] ++ (List.range nz).map fun z : Nat => ((3 : Int), (z : Int))) (by rw [List.length_append, List.length_map, List.length_range, List.length_singleton]; omega) ga k 0 (by omega) (by omega)
    rw [List.range_zero, List.map_nil, List.append_nil] at this
    exact this
  rw [hwz, hwm]
  have hmg : ∀ key, mget K2 D key = nwl (kp key) L none := fun key => hD key
  have kc : mval K2 Z7 D (6, 0) = (cO L).getD Z7 := by
    unfold mval; rw [hmg]; unfold cO; rw [nwl_congr _ _ L (fun _ _ x _ => kp_cursor x) none]
  refine l2_all _ _ k L D hmg nz ga (by omega) (by omega) k hk 0 true Z0 true M0 (-1) 0 hZ0 hM0 (fun o => (Goes L nz ga a0 a1 → ∃ b c, o = some (bookN L nz ga b c)) ∧ (¬ Goes L nz ga a0 a1 → o = some zero9)) (fun hp _ _ _ _ _ _ _ => ⟨fun h => absurd h.1 hp, fun _ => rfl⟩) (fun hp _ bb bd => ?_)
  try simp only
  obtain ⟨v1, v2⟩ := can_val k (by omega) (mxl L 0) bb (zL L nz) bd (mL L ga) (slot L) (cB L) a0 a1 a2 a3 a4 (by rw [zL_len]; omega) (by rw [mL_len]; omega) (by rw [mL_len]; omega)
  unfold book_Read_j3 book_Read_k0 book_Read_k1 book_Read_j4
  by_cases hc : CanP a0 a1 (zL L nz) (mL L ga) (slot L) (cB L)
  case neg =>
    rw [v2 hc, optb_some, Bool.not_false, cond_true, cond_true]
    exact ⟨fun h => absurd h.2.1 hc, fun _ => rfl⟩
  rw [v1 hc, optb_some, Bool.not_true, cond_false]
  show (_ → ∃ b c, (bif decide ((mval K2 Z7 D (6, 0)).2.2.1 = 65535) then _ else _) = _) ∧ (_ → (bif decide ((mval K2 Z7 D (6, 0)).2.2.1 = 65535) then _ else _) = _)
  rw [kc]
  show (_ → ∃ b c, (bif decide (cA L = 65535) then _ else _) = _) ∧ (_ → (bif decide (cA L = 65535) then _ else _) = _)
  by_cases hA : cA L = 65535
  · rw [decide_eq_true hA, cond_true]
    by_cases hB : cB L = 0
    · rw [decide_eq_true hB, Bool.not_true, cond_false]
      exact ⟨fun _ => ⟨bb, bd, rfl⟩, fun h => absurd ⟨hp, hc, fun _ => hB⟩ h⟩
    · rw [decide_eq_false hB, Bool.not_false, cond_true]
      exact ⟨fun h => absurd (h.2.2 hA) hB, fun _ => rfl⟩
  · rw [decide_eq_false hA, cond_false, cond_false]
    exact ⟨fun _ => ⟨bb, bd, rfl⟩, fun h => absurd ⟨hp, hc, fun e => absurd e hA⟩ h⟩
/-! ### a zone is free -/
theorem pigeon : ∀ (s l : List Int), s.Nodup → (∀ x ∈ s, x ∈ l) → s.length ≤ l.length
  | [], l, _, _ => Nat.zero_le _
  | a :: s, l, hn, hs => by
    rw [List.nodup_cons] at hn
    have ha : a ∈ l := hs a (List.mem_cons_self ..)
    have := pigeon s (l.erase a) hn.2 fun x hx => (List.mem_erase_of_ne (fun e => hn.1 (by rw [← e]; exact hx))).2 (hs x (List.mem_cons_of_mem _ hx))
    rw [List.length_erase_of_mem ha] at this
    have : 0 < l.length := List.length_pos_of_mem ha
    rw [List.length_cons]; omega
theorem fr_in {R : Type} (e0 : Int → Option R) (e1 : Option R) (k : Nat) (Z : List Zn) (hZ : Z.length ≤ 1000) (p : Int) : ∀ (rest : List Zn) (j i : Nat), Z.drop i = rest → rest.length < j → i ≤ Z.length →
    ((∀ x ∈ rest, x.1 ≠ p) → book_Book_Free_i54_3_l0 e0 e1 k Z (lenI Z) p j i = e1) ∧ ((¬ ∀ x ∈ rest, x.1 ≠ p) → ∃ q : Int, 0 ≤ q ∧ book_Book_Free_i54_3_l0 e0 e1 k Z (lenI Z) p j i = e0 q)
  | [], j, i, h, hj, hi => by
    obtain ⟨j, rfl⟩ : ∃ u, j = u + 1 := ⟨j - 1, by omega⟩
    have := congrArg List.length h
    rw [List.length_drop, List.length_nil] at this
    refine ⟨fun _ => ?_, fun hn => absurd (fun x hx => by cases hx) hn⟩
    rw [book_Book_Free_i54_3_l0]; unfold book_Book_Free_i54_3_l0s
    rw [lenI_eq, decide_eq_false (by omega), cond_false]
  | x :: rest, j, i, h, hj, hi => by
    obtain ⟨j, rfl⟩ : ∃ u, j = u + 1 := ⟨j - 1, by omega⟩
    obtain ⟨h1, h2, h3⟩ := drop_cons' h
    rw [List.length_cons] at hj
    obtain ⟨g1, g2⟩ := fr_in e0 e1 k Z hZ p rest j (i + 1) h3 (by omega) (by omega)
    have hl : lenI Z = (Z.length : Int) := lenI_eq Z
    rw [book_Book_Free_i54_3_l0]; unfold book_Book_Free_i54_3_l0s
    rw [hl, decide_eq_true (show (i : Int) < Z.length by omega), cond_true, decide_eq_true (show (0 : Int) ≤ i by omega), cond_true, Int.toNat_natCast, h1, optb_some, ← hl]
    by_cases c : x.1 = p
    · rw [decide_eq_true c, cond_true]
      exact ⟨fun hall => absurd c (hall x (List.mem_cons_self ..)), fun _ => ⟨i, by omega, rfl⟩⟩
    · rw [decide_eq_false c, cond_false, w64 (by omega) (by omega), show (i : Int) + 1 = ((i + 1 : Nat) : Int) by omega]
      refine ⟨fun hall => g1 fun y hy => hall y (List.mem_cons_of_mem _ hy), fun hn => g2 fun hall => hn fun y hy => ?_⟩
      rcases List.mem_cons.1 hy with rfl | hy
      · exact c
      · exact hall y hy
theorem fr_out (k : Nat) (hk : 2000 ≤ k) (Z : List Zn) (hZ : Z.length ≤ 1000) (gb : Int) (hgb : gb ≤ 1000) : ∀ (n j p : Nat), (p : Int) + n = gb → n < j →
    (∃ f : Int, book_Book_Free_l0 (fun v => some v) (some (-1)) k Z gb j p = some f ∧ p ≤ f ∧ f < gb ∧ ∀ x ∈ Z, x.1 ≠ f) ∨ ∀ q : Int, p ≤ q → q < gb → ∃ x ∈ Z, x.1 = q
  | 0, j, p, h, hj => Or.inr fun q h1 h2 => by omega
  | n + 1, j, p, h, hj => by
    obtain ⟨j, rfl⟩ : ∃ u, j = u + 1 := ⟨j - 1, by omega⟩
    rw [book_Book_Free_l0]; unfold book_Book_Free_l0s
    rw [decide_eq_true (show (p : Int) < gb by omega), cond_true]
    obtain ⟨g1, g2⟩ := fr_in (fun v_688 => bif (!(decide ((0 : Int) ≤ v_688))) then some (p : Int) else book_Book_Free_l0 (fun v => some v) (some (-1)) k Z gb j (wrap64 ((p : Int) + (1 : Int)))) (some (p : Int)) k Z hZ p Z k 0 List.drop_zero (by omega) (by omega)
    by_cases c : ∀ x ∈ Z, x.1 ≠ (p : Int)
    · exact Or.inl ⟨p, g1 c, by omega, by omega, c⟩
    · obtain ⟨q, q0, hq⟩ := g2 c
      rcases fr_out k hk Z hZ gb hgb n j (p + 1) (by omega) (by omega) with ⟨f, f1, f2, f3, f4⟩ | hall
      · exact Or.inl ⟨f, (show _ = _ from hq).trans (by show (bif (!(decide ((0 : Int) ≤ q))) then _ else _) = _; rw [decide_eq_true q0, Bool.not_true, cond_false, w64 (by omega) (by omega), show (p : Int) + 1 = ((p + 1 : Nat) : Int) by omega]; exact f1), by omega, f3, f4⟩
      · refine Or.inr fun q h1 h2 => ?_
        by_cases e : q = p
        · subst e
          refine Classical.byContradiction fun hc => c fun x hx he => hc ⟨x, hx, he⟩
        · exact hall q (by omega) h2
/-- What holds of the book's zones at any time. -/
structure ZI (gb : Int) (nz : Nat) (Z : List Zn) : Prop where
  len : Z.length = nz
  ok : ∀ x ∈ Z, 2 ≤ x.1 ∧ x.1 < gb ∧ x.2.2 = 0
  nd : (Z.map (·.1)).Nodup
theorem free_val (k : Nat) (hk : 2000 ≤ k) (ba : Int) (bb : Bool) (Z : List Zn) (bd : Bool) (M : List Int) (bf bg a0 a1 a2 a3 a4 : Int) (nz : Nat) (hn : nz ≤ 900) (hz : a1 = nz + 3) (h : ZI a1 nz Z) :
    ∃ f : Int, book_Book_Free k ba bb Z bd M bf bg a0 a1 a2 a3 a4 = some f ∧ 2 ≤ f ∧ f < a1 ∧ ∀ x ∈ Z, x.1 ≠ f := by
  have hlen := h.len
  unfold book_Book_Free
  rcases fr_out k hk Z (by omega) a1 (by omega) (nz + 1) k 2 (by omega) (by omega) with ⟨f, f1, f2, f3, f4⟩ | hall
  · exact ⟨f, f1, by omega, f3, f4⟩
  · exfalso
    have := pigeon ((List.range (nz + 1)).map fun t : Nat => (t : Int) + 2) (Z.map (·.1)) ?_ fun x hx => ?_
    · rw [List.length_map, List.length_map, List.length_range] at this; omega
    · rw [List.nodup_iff_pairwise_ne, List.pairwise_map]
      exact List.Pairwise.imp (fun {a b} hab => by omega) (List.pairwise_lt_range (n := nz + 1))
    · obtain ⟨t, ht, rfl⟩ := List.mem_map.1 hx
      rw [List.mem_range] at ht
      obtain ⟨x, hx, e⟩ := hall ((t : Int) + 2) (by omega) (by omega)
      exact List.mem_map.2 ⟨x, hx, e⟩
theorem ZI.move {gb : Int} {nz : Nat} {Z : List Zn} (h : ZI gb nz Z) {z : Nat} (hz : z < nz) {f i : Int} (f0 : 2 ≤ f) (f1 : f < gb) (hf : ∀ x ∈ Z, x.1 ≠ f) : ZI gb nz (Z.set z (f, (i, 0))) where
  len := by rw [List.length_set]; exact h.len
  ok := fun x hx => by
    rcases List.mem_or_eq_of_mem_set hx with h1 | rfl
    · exact h.ok x h1
    · exact ⟨f0, f1, rfl⟩
  nd := by
    have hn := h.nd
    rw [List.map_set]
    rw [List.nodup_iff_pairwise_ne, List.pairwise_iff_getElem] at hn ⊢
    have hno : ∀ (j : Nat) (hj : j < (Z.map (·.1)).length), (Z.map (·.1))[j] ≠ f := fun j hj e => by
      have := List.getElem_mem hj
      rw [e] at this
      obtain ⟨x, hx, e'⟩ := List.mem_map.1 this
      exact hf x hx e'
    intro a b ha hb hab
    rw [List.length_set] at ha hb
    rw [List.getElem_set, List.getElem_set]
    by_cases ea : z = a
    · rw [if_pos ea, if_neg (by omega)]
      exact fun e => hno b hb e.symm
    · rw [if_neg ea]
      by_cases eb : z = b
      · rw [if_pos eb]; exact hno a ha
      · rw [if_neg eb]; exact hn a b ha hb hab
theorem note_zone' (k : Nat) (ba : Int) (bb : Bool) (Z : List Zn) (bd : Bool) (M : List Int) (bf bg : Int) (x : Rec) (hZ : Z.length ≤ 1000) (hM : M.length ≤ 1000) (hx : x.1 = 3) {z : Nat} (hz : x.2.2.1 = z) (hl : z < Z.length) :
    ∃ bb' bd', noteN k ba bb Z bd M bf bg x = some ((bif decide (x.2.1 > ba) then x.2.1 else ba), ((bb', Z.set z (x.2.2.2.1, (x.2.2.2.2.1, x.2.2.2.2.2.1))), ((bd', M), (bf, bg)))) := by
  obtain ⟨b1, h1⟩ := cloneZ k bb Z hZ
  obtain ⟨b2, h2⟩ := cloneM k bd M hM
  refine ⟨b1, b2, ?_⟩
  unfold noteN book_Book_Note
  rw [h1, optb_some, h2, optb_some, decide_eq_true hx, cond_true, hz, decide_eq_true (show (0 : Int) ≤ z by omega), cond_true]
  try simp only
  unfold book_Book_Note_j0
  rw [lenI_eq, decide_eq_true (show (z : Int) < Z.length by omega), cond_true, decide_eq_true (show (0 : Int) ≤ z by omega), Bool.and_self, cond_true, Int.toNat_natCast, List.getElem?_eq_getElem hl, optb_some]
  rfl
/-! ### the book of an array that was never written -/
def z0 (nz : Nat) : List Zn := (List.range nz).map fun z : Nat => ((z : Int) + 2, ((1 : Int), (0 : Int)))
def m0 (ga : Nat) : List Int := (List.range ga).map fun s : Nat => (s : Int)
theorem z0_ok (nz : Nat) : ZI ((nz : Int) + 3) nz (z0 nz) where
  len := by unfold z0; rw [List.length_map, List.length_range]
  ok := fun x hx => by
    obtain ⟨t, ht, rfl⟩ := List.mem_map.1 hx
    rw [List.mem_range] at ht
    exact ⟨by show (2 : Int) ≤ (t : Int) + 2; omega, by show (t : Int) + 2 < _; omega, rfl⟩
  nd := by
    unfold z0
    rw [List.map_map, List.nodup_iff_pairwise_ne, List.pairwise_map]
    exact List.Pairwise.imp (fun {a b} hab => by show (a : Int) + 2 ≠ (b : Int) + 2; omega) (List.pairwise_lt_range (n := nz))
theorem m0_nd (ga : Nat) : (m0 ga).Nodup := by
  unfold m0
  rw [List.nodup_iff_pairwise_ne, List.pairwise_map]
  exact List.Pairwise.imp (fun {a b} hab => by omega) (List.pairwise_lt_range (n := ga))
theorem m0_len (ga : Nat) : (m0 ga).length = ga := by unfold m0; rw [List.length_map, List.length_range]
theorem m0_le (ga : Nat) : ∀ x ∈ m0 ga, 0 ≤ x ∧ x ≤ (ga : Int) := fun x hx => by
  obtain ⟨t, ht, rfl⟩ := List.mem_map.1 hx
  rw [List.mem_range] at ht; omega
theorem newz_loop' {R : Type} (e0 : List Zn → Option R) (k : Nat) {v : Nat} (hv : v ≤ 1000) : ∀ (n j i : Nat), i + n = v → n < j → book_New_l0 e0 k v j i (z0 i) = e0 (z0 v)
  | 0, j, i, h, hj => by
    obtain ⟨j, rfl⟩ : ∃ u, j = u + 1 := ⟨j - 1, by omega⟩
    rw [book_New_l0]; unfold book_New_l0s
    rw [decide_eq_false (by omega), cond_false, show i = v by omega]
  | n + 1, j, i, h, hj => by
    obtain ⟨j, rfl⟩ : ∃ u, j = u + 1 := ⟨j - 1, by omega⟩
    refine Eq.trans ?_ (newz_loop' e0 k hv n j (i + 1) (by omega) (by omega))
    have hz : z0 (i + 1) = z0 i ++ [((i : Int) + 2, (1, 0))] := by unfold z0; rw [List.range_succ, List.map_append]; rfl
    rw [book_New_l0]; unfold book_New_l0s
    rw [decide_eq_true (show (i : Int) < v by omega), cond_true, decide_eq_true (by rw [(z0_ok i).len, List.length_singleton]; omega), cond_true, w64 (n := (i : Int) + 1) (by omega) (by omega), w64 (n := (i : Int) + 2) (by omega) (by omega), show (i : Int) + 1 = ((i + 1 : Nat) : Int) by omega, hz]
theorem newm_loop' {R : Type} (e0 : List Int → Option R) (k : Nat) {v : Nat} (hv : v ≤ 1000) : ∀ (n j i : Nat), i + n = v → n < j → book_New_l1 e0 k v j i (m0 i) = e0 (m0 v)
  | 0, j, i, h, hj => by
    obtain ⟨j, rfl⟩ : ∃ u, j = u + 1 := ⟨j - 1, by omega⟩
    rw [book_New_l1]; unfold book_New_l1s
    rw [decide_eq_false (by omega), cond_false, show i = v by omega]
  | n + 1, j, i, h, hj => by
    obtain ⟨j, rfl⟩ : ∃ u, j = u + 1 := ⟨j - 1, by omega⟩
    refine Eq.trans ?_ (newm_loop' e0 k hv n j (i + 1) (by omega) (by omega))
    have hz : m0 (i + 1) = m0 i ++ [(i : Int)] := by unfold m0; rw [List.range_succ, List.map_append]; rfl
    rw [book_New_l1]; unfold book_New_l1s
    rw [decide_eq_true (show (i : Int) < v by omega), cond_true, decide_eq_true (by rw [m0_len, List.length_singleton]; omega), cond_true, w64 (n := (i : Int) + 1) (by omega) (by omega), show (i : Int) + 1 = ((i + 1 : Nat) : Int) by omega, hz]
theorem new_val' (k : Nat) (hk : 3000 ≤ k) (a0 a1 a2 a3 a4 : Int) (hG : GG a0 a1 a2 a3 a4) (nz ga : Nat) (hz : a1 = nz + 3) (hga : a0 = ga) :
    book_New k a0 a1 a2 a3 a4 = some (0, ((true, z0 nz), ((true, m0 ga), (-1, 0)))) := by
  have hGG := hG
  unfold GG at hGG
  unfold book_New
  rw [zones_yes k hG, optb_some, show a1 - 3 = (nz : Int) by omega]
  generalize hE : (fun b_412 : List Zn => optb _ _) = E
  have z2 := newz_loop' E k (v := nz) (by omega) nz k 0 (by omega) (by omega)
  have m2 := newm_loop' (fun b_445 => book_New_j2 (some ((0 : Int), ((true, z0 nz), ((true, b_445), ((-1 : Int), (0 : Int)))))) k) k (v := ga) (by omega) ga k 0 (by omega) (by omega)
  refine (show _ = _ from z2).trans ?_
  rw [← hE]
  simp only
  rw [good_val, optb_some, decide_eq_true hG, cond_true, hga]
  exact m2
/-! ### the records of a book -/
def em : ByteArray := (⟨#[]⟩ : ByteArray)
def mrec : Int → Nat → List Int → List Rec
  | _, _, [] => []
  | ba, i, x :: l => (5, (ba + 1, ((i : Int), (x, (0, (0, em)))))) :: mrec (ba + 1) (i + 1) l
def zrec : Int → Nat → List Zn → List Rec
  | _, _, [] => []
  | ba, i, x :: l => (3, (ba + 1, ((i : Int), (x.1, (x.2.1, (x.2.2, em)))))) :: zrec (ba + 1) (i + 1) l
theorem mrec_len : ∀ (l : List Int) (ba : Int) (i : Nat), (mrec ba i l).length = l.length
  | [], _, _ => rfl
  | x :: l, ba, i => by unfold mrec; rw [List.length_cons, List.length_cons, mrec_len l]
theorem zrec_len : ∀ (l : List Zn) (ba : Int) (i : Nat), (zrec ba i l).length = l.length
  | [], _, _ => rfl
  | x :: l, ba, i => by unfold zrec; rw [List.length_cons, List.length_cons, zrec_len l]
theorem mrec_mem : ∀ (l : List Int) (ba : Int) (i : Nat) (y : Rec), y ∈ mrec ba i l ↔ ∃ (t : Nat) (v : Int), l[t]? = some v ∧ y = (5, (ba + 1 + t, (((i + t : Nat) : Int), (v, (0, (0, em))))))
  | [], ba, i, y => ⟨(fun h => by cases h), (fun ⟨t, v, h, _⟩ => by simp at h)⟩
  | x :: l, ba, i, y => by
    unfold mrec
    rw [List.mem_cons, mrec_mem l (ba + 1) (i + 1) y]
    constructor
    · rintro (rfl | ⟨t, v, h1, h2⟩)
      · exact ⟨0, x, rfl, by simp⟩
      · exact ⟨t + 1, v, h1, by rw [h2, show ba + 1 + 1 + (t : Int) = ba + 1 + ((t + 1 : Nat) : Int) by omega, show i + 1 + t = i + (t + 1) by omega]⟩
    · rintro ⟨t, v, h1, h2⟩
      cases t with
      | zero =>
        left
        have hv : x = v := Option.some.inj h1
        rw [h2, ← hv]; simp
      | succ t => exact Or.inr ⟨t, v, h1, by rw [h2, show ba + 1 + 1 + (t : Int) = ba + 1 + ((t + 1 : Nat) : Int) by omega, show i + 1 + t = i + (t + 1) by omega]⟩
theorem zrec_mem : ∀ (l : List Zn) (ba : Int) (i : Nat) (y : Rec), y ∈ zrec ba i l ↔ ∃ (t : Nat) (v : Zn), l[t]? = some v ∧ y = (3, (ba + 1 + t, (((i + t : Nat) : Int), (v.1, (v.2.1, (v.2.2, em))))))
  | [], ba, i, y => ⟨(fun h => by cases h), (fun ⟨t, v, h, _⟩ => by simp at h)⟩
  | x :: l, ba, i, y => by
    unfold zrec
    rw [List.mem_cons, zrec_mem l (ba + 1) (i + 1) y]
    constructor
    · rintro (rfl | ⟨t, v, h1, h2⟩)
      · exact ⟨0, x, rfl, by simp⟩
      · exact ⟨t + 1, v, h1, by rw [h2, show ba + 1 + 1 + (t : Int) = ba + 1 + ((t + 1 : Nat) : Int) by omega, show i + 1 + t = i + (t + 1) by omega]⟩
    · rintro ⟨t, v, h1, h2⟩
      cases t with
      | zero =>
        left
        have hv : x = v := Option.some.inj h1
        rw [h2, ← hv]; simp
      | succ t => exact Or.inr ⟨t, v, h1, by rw [h2, show ba + 1 + 1 + (t : Int) = ba + 1 + ((t + 1 : Nat) : Int) by omega, show i + 1 + t = i + (t + 1) by omega]⟩
theorem rec_l0 {R : Type} (e0 : Int → List Rec → Option R) (k : Nat) (M : List Int) (hM : M.length ≤ 1000) : ∀ (rest : List Int) (j i : Nat) (ba : Int) (out : List Rec), M.drop i = rest → rest.length < j → i ≤ M.length → 0 ≤ ba → ba + rest.length ≤ 1000000000000000000 → out.length + rest.length ≤ 100000 →
    book_Book_Records_l0 e0 k M (lenI M) j i ba out = e0 (ba + rest.length) (out ++ mrec ba i rest)
  | [], j, i, ba, out, h, hj, hi, b0, b1, ho => by
    obtain ⟨j, rfl⟩ : ∃ u, j = u + 1 := ⟨j - 1, by omega⟩
    have := congrArg List.length h
    rw [List.length_drop, List.length_nil] at this
    rw [book_Book_Records_l0]; unfold book_Book_Records_l0s
    rw [lenI_eq, decide_eq_false (by omega), cond_false, List.length_nil]
    unfold mrec
    rw [List.append_nil, show ba + ((0 : Nat) : Int) = ba by omega]
  | x :: rest, j, i, ba, out, h, hj, hi, b0, b1, ho => by
    obtain ⟨j, rfl⟩ : ∃ u, j = u + 1 := ⟨j - 1, by omega⟩
    obtain ⟨h1, h2, h3⟩ := drop_cons' h
    rw [List.length_cons] at hj b1 ho
    have ih := rec_l0 e0 k M hM rest j (i + 1) (ba + 1) (out ++ [(5, (ba + 1, ((i : Int), (x, (0, (0, em))))))]) h3 (by omega) (by omega) (by omega) (by omega) (by rw [List.length_append, List.length_singleton]; omega)
    have hl : lenI M = (M.length : Int) := lenI_eq M
    rw [book_Book_Records_l0]; unfold book_Book_Records_l0s
    rw [hl, decide_eq_true (show (i : Int) < M.length by omega), cond_true, decide_eq_true (show (0 : Int) ≤ i by omega), cond_true, Int.toNat_natCast, h1, optb_some, ← hl, decide_eq_true (by rw [List.length_singleton]; omega), cond_true, w64 (n := (i : Int) + 1) (by omega) (by omega), w64 (n := ba + 1) (by omega) (by omega), show (i : Int) + 1 = ((i + 1 : Nat) : Int) by omega]
    refine (show _ = _ from ih).trans ?_
    rw [List.append_assoc, List.length_cons, show ba + 1 + (rest.length : Int) = ba + ((rest.length + 1 : Nat) : Int) by omega]; rfl
theorem rec_l1 {R : Type} (e0 : Int → List Rec → Option R) (k : Nat) (M : List Zn) (hM : M.length ≤ 1000) : ∀ (rest : List Zn) (j i : Nat) (ba : Int) (out : List Rec), M.drop i = rest → rest.length < j → i ≤ M.length → 0 ≤ ba → ba + rest.length ≤ 1000000000000000000 → out.length + rest.length ≤ 100000 →
    book_Book_Records_l1 e0 k M (lenI M) j i ba out = e0 (ba + rest.length) (out ++ zrec ba i rest)
  | [], j, i, ba, out, h, hj, hi, b0, b1, ho => by
    obtain ⟨j, rfl⟩ : ∃ u, j = u + 1 := ⟨j - 1, by omega⟩
    have := congrArg List.length h
    rw [List.length_drop, List.length_nil] at this
    rw [book_Book_Records_l1]; unfold book_Book_Records_l1s
    rw [lenI_eq, decide_eq_false (by omega), cond_false, List.length_nil]
    unfold zrec
    rw [List.append_nil, show ba + ((0 : Nat) : Int) = ba by omega]
  | x :: rest, j, i, ba, out, h, hj, hi, b0, b1, ho => by
    obtain ⟨j, rfl⟩ : ∃ u, j = u + 1 := ⟨j - 1, by omega⟩
    obtain ⟨h1, h2, h3⟩ := drop_cons' h
    rw [List.length_cons] at hj b1 ho
    have ih := rec_l1 e0 k M hM rest j (i + 1) (ba + 1) (out ++ [(3, (ba + 1, ((i : Int), (x.1, (x.2.1, (x.2.2, em))))))]) h3 (by omega) (by omega) (by omega) (by omega) (by rw [List.length_append, List.length_singleton]; omega)
    have hl : lenI M = (M.length : Int) := lenI_eq M
    rw [book_Book_Records_l1]; unfold book_Book_Records_l1s
    rw [hl, decide_eq_true (show (i : Int) < M.length by omega), cond_true, decide_eq_true (show (0 : Int) ≤ i by omega), cond_true, Int.toNat_natCast, h1, optb_some, ← hl, decide_eq_true (by rw [List.length_singleton]; omega), cond_true, w64 (n := (i : Int) + 1) (by omega) (by omega), w64 (n := ba + 1) (by omega) (by omega), show (i : Int) + 1 = ((i + 1 : Nat) : Int) by omega]
    refine (show _ = _ from ih).trans ?_
    rw [List.append_assoc, List.length_cons, show ba + 1 + (rest.length : Int) = ba + ((rest.length + 1 : Nat) : Int) by omega]; rfl
def recs (ba : Int) (Z : List Zn) (M : List Int) (sl bg : Int) : List Rec := (mrec ba 0 M ++ zrec (ba + M.length) 0 Z) ++ [(6, (ba + M.length + Z.length + 1, (sl, (bg, (0, (0, em))))))]
theorem records_val (k : Nat) (hk : 3000 ≤ k) (ba : Int) (bb : Bool) (Z : List Zn) (bd : Bool) (M : List Int) (bf bg : Int) (hZ : Z.length ≤ 1000) (hM : M.length ≤ 1000) (b0 : 0 ≤ ba) (b1 : ba ≤ 100000000000000000) :
    book_Book_Records k ba bb Z bd M bf bg = some ((true, recs ba Z M (if bf < 0 then 65535 else bf) bg), (ba + M.length + Z.length + 1, ((bb, Z), ((bd, M), (bf, bg))))) := by
  unfold book_Book_Records
  generalize hE : (fun (ba_26 : Int) (out_27 : List Rec) => _) = E
  have h1 := rec_l0 E k M hM M k 0 ba [] List.drop_zero (by omega) (by omega) b0 (by omega) (by rw [List.length_nil]; omega)
  refine (show _ = _ from h1).trans ?_
  rw [← hE]
  simp only
  rw [List.nil_append]
  generalize hE2 : (fun (ba_28 : Int) (out_29 : List Rec) => _) = E2
  have h2 := rec_l1 E2 k Z hZ Z k 0 (ba + M.length) (mrec ba 0 M) List.drop_zero (by omega) (by omega) (by omega) (by omega) (by rw [mrec_len]; omega)
  refine (show _ = _ from h2).trans ?_
  rw [← hE2]
  simp only
  by_cases c : bf < 0
  · rw [decide_eq_true c, cond_true, if_pos c]
    unfold book_Book_Records_j2 book_Book_Records_k0
    rw [decide_eq_true (by rw [List.length_append, mrec_len, zrec_len, List.length_singleton]; omega), cond_true, w64 (n := ba + M.length + Z.length + 1) (by omega) (by omega)]
    rfl
  · rw [decide_eq_false c, cond_false, if_neg c]
    unfold book_Book_Records_j2 book_Book_Records_k0
    rw [decide_eq_true (by rw [List.length_append, mrec_len, zrec_len, List.length_singleton]; omega), cond_true, w64 (n := ba + M.length + Z.length + 1) (by omega) (by omega)]
    rfl
/-! ### and what is read of them -/
theorem fold_one (p : Rec → Bool) (x : Rec) (hp : p x = true) : ∀ (l : List Rec) (o : Option Rec), (∀ y ∈ l, p y = true → y = x) → (o = none ∨ o = some x) → (x ∈ l ∨ o = some x) → l.foldl (stp p) o = some x
  | [], o, h, ho, hx => by
    rcases hx with hx | hx
    · cases hx
    · exact hx
  | y :: l, o, h, ho, hx => by
    rw [List.foldl_cons]
    cases hy : p y with
    | false =>
      have hs : stp p o y = o := by unfold stp; rw [hy, cond_false]
      rw [hs]
      refine fold_one p x hp l o (fun z hz => h z (List.mem_cons_of_mem _ hz)) ho ?_
      rcases hx with hx | hx
      · rcases List.mem_cons.1 hx with rfl | hx
        · rw [hp] at hy; cases hy
        · exact Or.inl hx
      · exact Or.inr hx
    | true =>
      obtain rfl := h y (List.mem_cons_self ..) hy
      have hs : stp p o y = some y := by
        unfold stp
        rw [hy, cond_true]
        rcases ho with rfl | rfl
        · rfl
        · show (bif decide (y.2.1 < y.2.1) then _ else _) = _
          rw [decide_eq_false (by omega), cond_false]
      rw [hs]
      exact fold_one p y hp l (some y) (fun z hz => h z (List.mem_cons_of_mem _ hz)) (Or.inr rfl) (Or.inr rfl)
theorem recs_mem (ba : Int) (Z : List Zn) (M : List Int) (sl bg : Int) (y : Rec) : y ∈ recs ba Z M sl bg ↔ (∃ (t : Nat) (v : Int), M[t]? = some v ∧ y = (5, (ba + 1 + t, ((t : Int), (v, (0, (0, em))))))) ∨ (∃ (t : Nat) (v : Zn), Z[t]? = some v ∧ y = (3, (ba + M.length + 1 + t, ((t : Int), (v.1, (v.2.1, (v.2.2, em))))))) ∨ y = (6, (ba + M.length + Z.length + 1, (sl, (bg, (0, (0, em)))))) := by
  unfold recs
  rw [List.mem_append, List.mem_append, mrec_mem, zrec_mem, List.mem_singleton, or_assoc]
  simp only [Nat.zero_add]
theorem z_of (b : Bool) (ba : Int) (Z : List Zn) (M : List Int) (sl bg : Int) (t : Nat) (v : Zn) (h : Z[t]? = some v) : zO [(b, recs ba Z M sl bg)] t = some (3, (ba + M.length + 1 + t, ((t : Int), (v.1, (v.2.1, (v.2.2, em)))))) := by
  have hp : pk 3 t (3, (ba + M.length + 1 + t, ((t : Int), (v.1, (v.2.1, (v.2.2, em)))))) = true := by
    show (decide ((3 : Int) = 3) && (decide ((t : Int) < 0) || decide ((t : Int) = t))) = true; rw [decide_eq_true (rfl : (t : Int) = t), Bool.or_true]; rfl
  refine fold_one (pk 3 t) _ hp _ none (fun y hy hpy => ?_) (Or.inl rfl) (Or.inl ((recs_mem ..).2 (Or.inr (Or.inl ⟨t, v, h, rfl⟩))))
  unfold pk at hpy
  rw [Bool.and_eq_true, Bool.or_eq_true] at hpy
  obtain ⟨k1, k2⟩ := hpy
  have k1 := of_decide_eq_true k1
  have k2 : y.2.2.1 = t := by
    rcases k2 with k2 | k2
    · have := of_decide_eq_true k2; omega
    · exact of_decide_eq_true k2
  rcases (recs_mem ..).1 hy with ⟨u, w, h1, rfl⟩ | ⟨u, w, h1, rfl⟩ | rfl
  · exact absurd k1 (by show ¬ (5 : Int) = 3; omega)
  · have k2 : (u : Int) = t := k2
    have : u = t := by omega
    subst this
    rw [h] at h1; cases h1; rfl
  · exact absurd k1 (by show ¬ (6 : Int) = 3; omega)
theorem m_of (b : Bool) (ba : Int) (Z : List Zn) (M : List Int) (sl bg : Int) (t : Nat) (v : Int) (h : M[t]? = some v) : mO [(b, recs ba Z M sl bg)] t = some (5, (ba + 1 + t, ((t : Int), (v, (0, (0, em)))))) := by
  have hp : pk 5 t (5, (ba + 1 + t, ((t : Int), (v, (0, (0, em)))))) = true := by
    show (decide ((5 : Int) = 5) && (decide ((t : Int) < 0) || decide ((t : Int) = t))) = true; rw [decide_eq_true (rfl : (t : Int) = t), Bool.or_true]; rfl
  refine fold_one (pk 5 t) _ hp _ none (fun y hy hpy => ?_) (Or.inl rfl) (Or.inl ((recs_mem ..).2 (Or.inl ⟨t, v, h, rfl⟩)))
  unfold pk at hpy
  rw [Bool.and_eq_true, Bool.or_eq_true] at hpy
  obtain ⟨k1, k2⟩ := hpy
  have k1 := of_decide_eq_true k1
  have k2 : y.2.2.1 = t := by
    rcases k2 with k2 | k2
    · have := of_decide_eq_true k2; omega
    · exact of_decide_eq_true k2
  rcases (recs_mem ..).1 hy with ⟨u, w, h1, rfl⟩ | ⟨u, w, h1, rfl⟩ | rfl
  · have k2 : (u : Int) = t := k2
    have : u = t := by omega
    subst this
    rw [h] at h1; cases h1; rfl
  · exact absurd k1 (by show ¬ (3 : Int) = 5; omega)
  · exact absurd k1 (by show ¬ (6 : Int) = 5; omega)
theorem c_of (b : Bool) (ba : Int) (Z : List Zn) (M : List Int) (sl bg : Int) : cO [(b, recs ba Z M sl bg)] = some (6, (ba + M.length + Z.length + 1, (sl, (bg, (0, (0, em)))))) := by
  refine fold_one (pk 6 (-1)) _ rfl _ none (fun y hy hpy => ?_) (Or.inl rfl) (Or.inl ((recs_mem ..).2 (Or.inr (Or.inr rfl))))
  unfold pk at hpy
  rw [Bool.and_eq_true] at hpy
  have k1 := of_decide_eq_true hpy.1
  rcases (recs_mem ..).1 hy with ⟨u, w, h1, rfl⟩ | ⟨u, w, h1, rfl⟩ | rfl
  · exact absurd k1 (by show ¬ (5 : Int) = 6; omega)
  · exact absurd k1 (by show ¬ (3 : Int) = 6; omega)
  · rfl
theorem mxs_le (N : Int) : ∀ (l : List Rec) (m : Int), (∀ y ∈ l, y.2.1 ≤ N) → m ≤ N → mxs l m ≤ N
  | [], m, _, hm => hm
  | x :: l, m, h, hm => by
    have hx := h x (List.mem_cons_self ..)
    show mxs l (bif decide (x.2.1 > m) then x.2.1 else m) ≤ N
    refine mxs_le N l _ (fun y hy => h y (List.mem_cons_of_mem _ hy)) ?_
    cases decide (x.2.1 > m) <;> assumption
theorem mx_of (b : Bool) (ba : Int) (Z : List Zn) (M : List Int) (sl bg : Int) (h0 : 0 ≤ ba) : mxl [(b, recs ba Z M sl bg)] 0 = ba + M.length + Z.length + 1 := by
  show mxs (recs ba Z M sl bg) 0 = _
  unfold recs mxs
  rw [List.foldl_append]
  have h := mxs_le (ba + M.length + Z.length) (mrec ba 0 M ++ zrec (ba + M.length) 0 Z) 0 (fun y hy => by
    rw [List.mem_append, mrec_mem, zrec_mem] at hy
    rcases hy with ⟨t, v, h1, rfl⟩ | ⟨t, v, h1, rfl⟩
    · have := (List.getElem?_eq_some_iff.1 h1).1
      show ba + 1 + (t : Int) ≤ _; omega
    · have := (List.getElem?_eq_some_iff.1 h1).1
      show ba + M.length + 1 + (t : Int) ≤ _; omega) (by omega)
  unfold mxs at h
  generalize List.foldl (fun (m : Int) (x : Rec) => bif decide (x.2.1 > m) then x.2.1 else m) 0 (mrec ba 0 M ++ zrec (ba + M.length) 0 Z) = m at h ⊢
  show (bif decide (ba + M.length + Z.length + 1 > m) then ba + M.length + Z.length + 1 else m) = _
  rw [decide_eq_true (by omega), cond_true]
theorem zL_of (b : Bool) (ba : Int) (Z : List Zn) (M : List Int) (sl bg : Int) : zL [(b, recs ba Z M sl bg)] Z.length = Z := by
  refine List.ext_getElem? fun t => ?_
  by_cases h : t < Z.length
  · unfold zL
    rw [List.getElem?_map, List.getElem?_range h, Option.map_some, z_of b ba Z M sl bg t _ (List.getElem?_eq_getElem h), List.getElem?_eq_getElem h]; rfl
  · rw [List.getElem?_eq_none (by rw [zL_len]; omega), List.getElem?_eq_none (by omega)]
theorem mL_of (b : Bool) (ba : Int) (Z : List Zn) (M : List Int) (sl bg : Int) : mL [(b, recs ba Z M sl bg)] M.length = M := by
  refine List.ext_getElem? fun t => ?_
  by_cases h : t < M.length
  · unfold mL
    rw [List.getElem?_map, List.getElem?_range h, Option.map_some, m_of b ba Z M sl bg t _ (List.getElem?_eq_getElem h), List.getElem?_eq_getElem h]; rfl
  · rw [List.getElem?_eq_none (by rw [mL_len]; omega), List.getElem?_eq_none (by omega)]
theorem fresh_read (k : Nat) (hk : 3000 ≤ k) (a0 a1 a2 a3 a4 : Int) (hG : GG a0 a1 a2 a3 a4) (nz ga : Nat) (hz : a1 = nz + 3) (hga : a0 = ga) (b c : Bool) (ba : Int) (Z : List Zn) (h : ZI a1 nz Z) (b0 : 0 ≤ ba) (b1 : ba ≤ 1000) :
    ∃ b1 b2, book_Read k a0 a1 a2 a3 a4 b [(c, recs ba Z (m0 ga) 65535 0)] = some ((ba + (m0 ga).length + Z.length + 1, ((b1, Z), ((b2, m0 ga), (-1, 0)))), 0) := by
  have hGG := hG
  unfold GG at hGG
  have hlz := h.len
  have hlm := m0_len ga
  generalize hM : m0 ga = M at hlm
  have hMn : M.Nodup := by rw [← hM]; exact m0_nd ga
  have hMl : ∀ x ∈ M, 0 ≤ x ∧ x ≤ (ga : Int) := by rw [← hM]; exact m0_le ga
  have hF : FineLL [(c, recs ba Z M 65535 0)] := by
    refine ⟨by simp, fun q hq => ?_⟩
    rw [List.mem_singleton] at hq
    subst hq
    refine ⟨?_, fun y hy => ?_⟩
    · show (recs ba Z M 65535 0).length ≤ 100
      unfold recs
      rw [List.length_append, List.length_append, mrec_len, zrec_len, List.length_singleton]; omega
    · rcases (recs_mem ..).1 hy with ⟨t, v, h1, rfl⟩ | ⟨t, v, h1, rfl⟩ | rfl
      · have ht := (List.getElem?_eq_some_iff.1 h1).1
        have hv := hMl v (List.mem_of_getElem? h1)
        exact ⟨⟨by show (3 : Int) ≤ 5; omega, by show (5 : Int) ≤ 6; omega⟩, ⟨by show 0 ≤ ba + 1 + (t : Int); omega, by show ba + 1 + (t : Int) < _; omega⟩, ⟨by show (0 : Int) ≤ (t : Int); omega, by show (t : Int) ≤ _; omega⟩, ⟨by show 0 ≤ v; omega, by show v ≤ _; omega⟩, ⟨by show (0 : Int) ≤ 0; omega, by show (0 : Int) ≤ 65535; omega⟩⟩
      · have ht := (List.getElem?_eq_some_iff.1 h1).1
        have hv := h.ok v (List.mem_of_getElem? h1)
        exact ⟨⟨by show (3 : Int) ≤ 3; omega, by show (3 : Int) ≤ 6; omega⟩, ⟨by show 0 ≤ ba + M.length + 1 + (t : Int); omega, by show ba + M.length + 1 + (t : Int) < _; omega⟩, ⟨by show (0 : Int) ≤ (t : Int); omega, by show (t : Int) ≤ _; omega⟩, ⟨by show 0 ≤ v.1; omega, by show v.1 ≤ _; omega⟩, ⟨by show 0 ≤ v.2.2; omega, by show v.2.2 ≤ _; omega⟩⟩
      · exact ⟨⟨by show (3 : Int) ≤ 6; omega, by show (6 : Int) ≤ 6; omega⟩, ⟨by show 0 ≤ ba + M.length + Z.length + 1; omega, by show ba + M.length + Z.length + 1 < _; omega⟩, ⟨by show (0 : Int) ≤ 65535; omega, by show (65535 : Int) ≤ 65535; omega⟩, ⟨by show (0 : Int) ≤ 0; omega, by show (0 : Int) ≤ 65535; omega⟩, ⟨by show (0 : Int) ≤ 0; omega, by show (0 : Int) ≤ 65535; omega⟩⟩
  have eZ : zL [(c, recs ba Z M 65535 0)] nz = Z := by rw [← hlz]; exact zL_of c ba Z M 65535 0
  have eM : mL [(c, recs ba Z M 65535 0)] ga = M := by rw [← hlm]; exact mL_of c ba Z M 65535 0
  have eA : cA [(c, recs ba Z M 65535 0)] = 65535 := by unfold cA; rw [c_of]; rfl
  have eB : cB [(c, recs ba Z M 65535 0)] = 0 := by unfold cB; rw [c_of]; rfl
  have eS : slot [(c, recs ba Z M 65535 0)] = -1 := by unfold slot; rw [if_pos eA]
  have hgo : Goes [(c, recs ba Z M 65535 0)] nz ga a0 a1 := by
    refine ⟨⟨by rw [c_of]; rfl, fun z hz => ?_, fun z hz => ?_⟩, ?_, fun _ => eB⟩
    · rw [z_of c ba Z M 65535 0 z _ (List.getElem?_eq_getElem (by omega))]; rfl
    · rw [m_of c ba Z M 65535 0 z _ (List.getElem?_eq_getElem (by omega))]; rfl
    · rw [eZ, eM, eS, eB]
      refine ⟨fun x hx => ?_, h.nd, hMn, fun x hx => by have := hMl x hx; omega, by omega, by omega⟩
      have := h.ok x hx
      exact ⟨by omega, by omega, by omega⟩
  obtain ⟨b1', b2', hr⟩ := (book_val k hk a0 a1 a2 a3 a4 hG nz ga hz hga b _ (bounds _ hF)).1 hgo
  refine ⟨b1', b2', hr.trans ?_⟩
  unfold bookN
  rw [eZ, eM, eS, eB, mx_of c ba Z M 65535 0 b0]
/-! ### the law's own loops -/
theorem bf_l1 {R : Type} (e0 : Bool → Option R) (e1 : Option R) (k : Nat) (f : Int) (Z : List Zn) (hZ : Z.length ≤ 1000) (hf : ∀ x ∈ Z, x.1 ≠ f) : ∀ (n j i : Nat), i + n = Z.length → n < j → BF_l1 e0 e1 k f Z j i = e1
  | 0, j, i, h, hj => by
    obtain ⟨j, rfl⟩ : ∃ u, j = u + 1 := ⟨j - 1, by omega⟩
    rw [BF_l1]; unfold BF_l1s
    rw [lenI_eq, decide_eq_false (by omega), cond_false]
  | n + 1, j, i, h, hj => by
    obtain ⟨j, rfl⟩ : ∃ u, j = u + 1 := ⟨j - 1, by omega⟩
    have hi : i < Z.length := by omega
    rw [BF_l1]; unfold BF_l1s
    rw [lenI_eq, decide_eq_true (show (i : Int) < Z.length by omega), cond_true, decide_eq_true (show (0 : Int) ≤ i by omega), cond_true, Int.toNat_natCast, List.getElem?_eq_getElem hi, optb_some, decide_eq_false (hf _ (List.getElem_mem hi)), cond_false, w64 (by omega) (by omega), show (i : Int) + 1 = ((i + 1 : Nat) : Int) by omega]
    exact bf_l1 e0 e1 k f Z hZ hf n j (i + 1) (by omega) (by omega)
theorem bf_l5 {R : Type} (e0 : Bool → Option R) (e1 : Option R) (k : Nat) (Z : List Zn) (hZ : Z.length ≤ 1000) : ∀ (n j i : Nat), i + n = Z.length → n < j → BF_l5 e0 e1 k Z Z j i = e1
  | 0, j, i, h, hj => by
    obtain ⟨j, rfl⟩ : ∃ u, j = u + 1 := ⟨j - 1, by omega⟩
    rw [BF_l5]; unfold BF_l5s
    rw [lenI_eq, decide_eq_false (by omega), cond_false]
  | n + 1, j, i, h, hj => by
    obtain ⟨j, rfl⟩ : ∃ u, j = u + 1 := ⟨j - 1, by omega⟩
    have hi : i < Z.length := by omega
    rw [BF_l5]; unfold BF_l5s
    rw [lenI_eq, decide_eq_true (show (i : Int) < Z.length by omega), cond_true, decide_eq_true (show (0 : Int) ≤ i by omega), Bool.and_self, cond_true, Int.toNat_natCast, List.getElem?_eq_getElem hi, optb_some, cond_true, optb_some, decide_eq_true rfl, decide_eq_true rfl, decide_eq_true rfl, Bool.and_self, Bool.and_self, Bool.and_self, Bool.not_true, cond_false, w64 (by omega) (by omega), show (i : Int) + 1 = ((i + 1 : Nat) : Int) by omega]
    exact bf_l5 e0 e1 k Z hZ n j (i + 1) (by omega) (by omega)
theorem bf_l0 (k : Nat) (hk : 3000 ≤ k) (a0 a1 a2 a3 a4 : Int) (nz ga : Nat) (hz : a1 = nz + 3) (hn0 : 0 < nz) (hn : nz ≤ 900) (hg : ga ≤ 900) (mv : List Int) (hmv : ∀ x ∈ mv, -9223372036854775808 ≤ x ∧ x ≤ 9223372036854775807)
    (e0 : Bool → Int → Bool → List Zn → Bool → List Int → Int → Int → Option Bool) (e1 : Int → Bool → List Zn → Bool → List Int → Int → Int → Option Bool)
    (he : ∀ (ba : Int) bb Z bd, 0 ≤ ba → ba ≤ 1000 → ZI a1 nz Z → e1 ba bb Z bd (m0 ga) (-1) 0 = some true) : ∀ (n j i : Nat) (bb : Bool) (Z : List Zn) (bd : Bool), i + n = 30 → n < j → ZI a1 nz Z →
    BF_l0 e0 e1 k mv a1 a0 a1 a2 a3 a4 j i i bb Z bd (m0 ga) (-1) 0 = some true
  | 0, j, i, bb, Z, bd, h, hj, hZ => by
    obtain ⟨j, rfl⟩ : ∃ u, j = u + 1 := ⟨j - 1, by omega⟩
    rw [BF_l0]; unfold BF_l0s
    rw [decide_eq_false (show ¬ (i : Int) < 30 by omega), cond_false, Bool.cond_self]
    exact he _ _ _ _ (by omega) (by omega) hZ
  | n + 1, j, i, bb, Z, bd, h, hj, hZ => by
    obtain ⟨j, rfl⟩ : ∃ u, j = u + 1 := ⟨j - 1, by omega⟩
    have hlz := hZ.len
    have hlm := m0_len ga
    rw [BF_l0]; unfold BF_l0s
    by_cases hi : i < mv.length
    case neg =>
      rw [lenI_eq, decide_eq_false (show ¬ (i : Int) < mv.length by omega), cond_false]
      exact he _ _ _ _ (by omega) (by omega) hZ
    obtain ⟨f, f1, f2, f3, f4⟩ := free_val k (by omega) i bb Z bd (m0 ga) (-1) 0 a0 a1 a2 a3 a4 nz hn hz hZ
    rw [lenI_eq, decide_eq_true (show (i : Int) < mv.length by omega), cond_true, decide_eq_true (show (i : Int) < 30 by omega), cond_true, f1, optb_some]
    refine (show _ = _ from bf_l1 _ _ k f Z (by omega) f4 Z.length k 0 (by omega) (by omega)).trans ?_
    rw [decide_eq_false (show ¬ f < 2 by omega), cond_false, decide_eq_false (show ¬ a1 ≤ f by omega)]
    unfold BF_j2 BF_k1 BF_j3
    rw [cond_false, decide_eq_true (show (0 : Int) ≤ i by omega), cond_true, Int.toNat_natCast, List.getElem?_eq_getElem hi, optb_some, lenI_eq, hlz, decide_eq_false (show ¬ (nz : Int) = 0 by omega), cond_false, cond_false]
    have hm := mod_in2 (hmv _ (List.getElem_mem hi)) (c := (nz : Int)) (by omega) (by omega)
    obtain ⟨z, hzz⟩ : ∃ z : Nat, Int.tmod (wrap64 (Int.tmod mv[i] nz + nz)) nz = z := ⟨(Int.tmod (wrap64 (Int.tmod mv[i] nz + nz)) nz).toNat, by omega⟩
    rw [hzz] at hm ⊢
    rw [w64 (n := (i : Int) + 1) (by omega) (by omega)]
    obtain ⟨b1, b2, hnote⟩ := note_zone' k i bb Z bd (m0 ga) (-1) 0 (3, ((i : Int) + 1, ((z : Int), (f, ((i : Int), (0, (⟨#[]⟩ : ByteArray))))))) (by omega) (by omega) rfl (z := z) rfl (by omega)
    unfold noteN at hnote
    rw [hnote, optb_some, decide_eq_true (show ((i : Int) + 1 > i) by omega), cond_true, show (i : Int) + 1 = ((i + 1 : Nat) : Int) by omega]
    exact bf_l0 k hk a0 a1 a2 a3 a4 nz ga hz hn0 hn hg mv hmv e0 e1 he n j (i + 1) b1 _ b2 (by omega) (by omega) (hZ.move (by omega) (by omega) (by omega) f4)
theorem speaks_ok (d : Nat) : corbellaw10_speaks (d + 300) = some true := by kernel_rfl
theorem main (a0 a1 a2 a3 a4 : Int) (b : Bool) (mv : List Int) (hmv : ∀ x ∈ mv, -9223372036854775808 ≤ x ∧ x ≤ 9223372036854775807) : corbellaw10_BookFresh (9700 + 300) a0 a1 a2 a3 a4 b mv = some true := by
  unfold corbellaw10_BookFresh
  rw [speaks_ok, optb_some, Bool.not_true, cond_false, refgood_val, optb_some]
  by_cases hG : GG a0 a1 a2 a3 a4
  case neg => rw [decide_eq_false hG, Bool.not_false, cond_true]
  have hGG := hG
  unfold GG at hGG
  obtain ⟨nz, hz⟩ : ∃ nz : Nat, a1 = nz + 3 := ⟨(a1 - 3).toNat, by omega⟩
  obtain ⟨ga, hga⟩ : ∃ ga : Nat, a0 = ga := ⟨a0.toNat, by omega⟩
  rw [decide_eq_true hG, Bool.not_true, cond_false, new_val' _ (by omega) a0 a1 a2 a3 a4 hG nz ga hz hga, optb_some]
  refine bf_l0 (9700 + 300) (by omega) a0 a1 a2 a3 a4 nz ga hz (by omega) (by omega) (by omega) mv hmv _ _ (fun ba bb Z bd b0 b1 hZ => ?_) 30 (9700 + 300) 0 true (z0 nz) true (by omega) (by omega) (by rw [hz]; exact z0_ok nz)
  have hlz := hZ.len
  have hlm := m0_len ga
  rw [records_val _ (by omega) ba bb Z bd (m0 ga) (-1) 0 (by omega) (by omega) b0 (by omega), optb_some, if_pos (by omega)]
  obtain ⟨c1, c2, hr⟩ := fresh_read (9700 + 300) (by omega) a0 a1 a2 a3 a4 hG nz ga hz hga false true ba Z hZ b0 b1
  simp only
  rw [hr, optb_some]
  simp only
  rw [decide_eq_true trivial, Bool.not_true, cond_false, cond_false, cond_false, cond_false]
  unfold BF_j4 BF_k3
  rw [cond_false]
  refine (show _ = _ from bf_l5 _ _ _ Z (by omega) Z.length (9700 + 300) 0 (by omega) (by omega)).trans ?_
  unfold book_Book_Has
  rw [lenI_eq, hlm, hga, decide_eq_true rfl, cond_true]
  rw [decide_eq_true (show (0 : Int) ≤ 0 by omega), cond_true, decide_eq_true (show (0 : Int) < ga by omega), cond_true, decide_eq_false (show ¬ (0 : Int) = -1 by omega), Bool.not_false, cond_true, optb_some, cond_true, decide_eq_false (show ¬ (0 : Int) ≤ -1 by omega), cond_false, optb_some, Bool.not_false, cond_true, decide_eq_true (show (0 : Int) ≤ ga by omega), cond_true, decide_eq_false (show ¬ (ga : Int) < ga by omega), cond_false, optb_some, Bool.not_false]
/-- The book of an array that was never written is read of its own records. -/
theorem BookFresh : BookFreshPure := by
  intro x0 x1 h0 h1
  have hmv : ∀ x ∈ x1.2, -9223372036854775808 ≤ x ∧ x ≤ 9223372036854775807 := fun x hx => wf_i64 (h1.2.2 x hx)
  exact ⟨9700 + 300, main x0.1 x0.2.1 x0.2.2.1 x0.2.2.2.1 x0.2.2.2.2 x1.1 x1.2 hmv⟩
end Go.Proofs.Ytbaikphpohdmoaa.Pure
