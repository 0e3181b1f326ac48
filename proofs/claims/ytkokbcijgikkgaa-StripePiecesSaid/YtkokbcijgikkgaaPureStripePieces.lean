/- StripePieces: the pure statement, over numbers and lists alone; no conditions. -/
import Derived.Test.YtkokbcijgikkgaaStatStripePieces
set_option linter.unusedVariables false
set_option linter.unusedSimpArgs false
namespace Go.Proofs.Ytkokbcijgikkgaa.Pure
open Go Go.RowKit Go.Proofs.Ytkokbcijgikkgaa.Ev
/-! ### whole numbers -/
theorem wf_i64 {n : Int} (h : Ty.wf (.int .i64) n) : -9223372036854775808 ≤ n ∧ n ≤ 9223372036854775807 := by
  have h : (Lit.int .i64 n).wf = true := h
  simpa [Lit.wf, IntKind.min, IntKind.max, IntKind.signed, IntKind.bits] using h
theorem w64 {n : Int} (h0 : -9223372036854775808 ≤ n) (h1 : n ≤ 9223372036854775807) : wrap64 n = n := by unfold wrap64; omega
theorem tdiv_pos {a b : Int} (ha : 0 ≤ a) : Int.tdiv a b = a / b := Int.tdiv_eq_ediv_of_nonneg ha
theorem tmod_pos {a b : Int} (ha : 0 ≤ a) : Int.tmod a b = a % b := Int.tmod_eq_emod_of_nonneg ha
theorem bytesOf_append (a b : List Int) : bytesOf a ++ bytesOf b = bytesOf (a ++ b) := by
  apply ByteArray.ext
  simp [bytesOf]
theorem cond_t {α : Type} {c : Bool} {a b : α} (h : c = true) : (bif c then a else b) = a := by rw [h]; rfl
theorem cond_f {α : Type} {c : Bool} {a b : α} (h : c = false) : (bif c then a else b) = b := by rw [h]; rfl
theorem and_mask (x : Int) (i : Nat) (hi : i ≤ 62) : bitop .and .i64 x (2 ^ i - 1) = x % 2 ^ i := by
  have h2 : (2 : Nat) ^ i ≤ 2 ^ 62 := Nat.pow_le_pow_right (by decide) hi
  have h62 : (2 : Nat) ^ 62 = 4611686018427387904 := by decide
  have h64 : (2 : Nat) ^ 64 = 18446744073709551616 := by decide
  have hp : 0 < 2 ^ i := Nat.two_pow_pos i
  have hc : ((2 : Int) ^ i - 1) = ((2 ^ i - 1 : Nat) : Int) := by rw [Int.natCast_sub hp]; simp
  have hd : (2 ^ i : Nat) ∣ 2 ^ 64 := Nat.pow_dvd_pow 2 (by omega)
  have hb : IntKind.i64.bits = 64 := rfl
  have key : ((BitVec.ofInt 64 x &&& BitVec.ofInt 64 (2 ^ i - 1)).toNat : Int) = x % 2 ^ i := by
    rw [hc, BitVec.ofInt_natCast, BitVec.toNat_and, BitVec.toNat_ofNat, Nat.mod_eq_of_lt (show 2 ^ i - 1 < 2 ^ 64 by omega), Nat.and_two_pow_sub_one_eq_mod, BitVec.toNat_ofInt,
      Int.natCast_emod, Int.toNat_of_nonneg (Int.emod_nonneg _ (by decide)), Int.emod_emod_of_dvd]
    · simp
    · exact Int.natCast_dvd_natCast.2 hd
  have hlt : ((BitVec.ofInt 64 x &&& BitVec.ofInt 64 (2 ^ i - 1)).toNat : Int) < 4611686018427387904 := by
    rw [key]
    have : x % ((2 ^ i : Nat) : Int) < ((2 ^ i : Nat) : Int) := Int.emod_lt_of_pos _ (by omega)
    have e : ((2 ^ i : Nat) : Int) = (2 : Int) ^ i := by simp
    rw [e] at this
    have : (2 : Int) ^ i ≤ 4611686018427387904 := by rw [← e]; omega
    omega
  show IntKind.i64.wrap ((BitVec.ofInt 64 x &&& BitVec.ofInt 64 (2 ^ i - 1)).toNat : Int) = x % 2 ^ i
  rw [IntKind.wrap_i64]
  omega
/-! ### the pieces of a range -/
theorem divmod_of {w q e x : Int} (hw : 0 < w) (hx : x = w * q + e) (h0 : 0 ≤ e) (h1 : e < w) : x / w = q ∧ x % w = e := by
  subst hx
  constructor
  · rw [Int.add_comm, Int.add_mul_ediv_left _ _ (by omega), Int.ediv_eq_zero_of_lt h0 h1]; omega
  · rw [Int.add_comm, Int.add_mul_emod_self_left]; exact Int.emod_eq_of_lt h0 h1
def cntV (w f n : Int) : Int := if w - f % w < n then w - f % w else n
abbrev Pc := Int × (Int × Int)
def IsP (w : Int) : Int → Int → List Pc → Prop
  | _, n, [] => n = 0
  | f, n, p :: l => 0 < n ∧ p = (f / w, (f % w, cntV w f n)) ∧ IsP w (f + cntV w f n) (n - cntV w f n) l
theorem cntV_bounds {w f n : Int} (hw : 1 ≤ w) (hn : 0 < n) : 1 ≤ cntV w f n ∧ cntV w f n ≤ n ∧ 0 ≤ f % w ∧ f % w + cntV w f n ≤ w ∧ (f % w + cntV w f n = w ∨ cntV w f n = n) := by
  have h0 := Int.emod_nonneg f (show w ≠ 0 by omega)
  have h1 := Int.emod_lt_of_pos f (show 0 < w by omega)
  unfold cntV
  split <;> omega
theorem pieces_loop {R : Type} (e0 : Bool → List Pc → Option R) (k : Nat) {w : Int} (hw : 1 ≤ w) (hw2 : w ≤ 9223372036854775807) (j : Nat) :
    ∀ (f n : Int) (nl : Bool) (acc : List Pc), 0 ≤ f → 0 ≤ n → f + n ≤ 3000000000000 → n.toNat < j → acc.length + n.toNat ≤ 100000 →
      ∃ l, stripe_Pieces_l1 e0 k j w f n nl acc = e0 nl (acc ++ l) ∧ IsP w f n l ∧ l.length ≤ n.toNat := by
  induction j with
  | zero => intro f n nl acc _ _ _ hk _; omega
  | succ j ih =>
    intro f n nl acc hf hn hb hk ha
    show ∃ l, stripe_Pieces_l1s (stripe_Pieces_l1 e0 k j) e0 k w f n nl acc = _ ∧ _
    simp only [stripe_Pieces_l1s, Bool.cond_decide]
    by_cases hn0 : 0 < n
    · have hc := cntV_bounds (f := f) hw hn0
      have hm1 := Int.emod_lt_of_pos f (show 0 < w by omega)
      have hdv0 := Int.ediv_nonneg hf (show 0 ≤ w by omega)
      have hdv1 : f / w ≤ f := Int.ediv_le_self _ hf
      obtain ⟨l, h1, h2, h3⟩ := ih (f + cntV w f n) (n - cntV w f n) nl (acc ++ [(f / w, (f % w, cntV w f n))]) (by omega) (by omega) (by omega) (by omega) (by simp; omega)
      refine ⟨(f / w, (f % w, cntV w f n)) :: l, ?_, ⟨hn0, rfl, h2⟩, by simp; omega⟩
      have hcv : (if w - f % w < n then w - f % w else n) = cntV w f n := rfl
      rw [if_pos hn0, if_neg (show ¬ w = 0 by omega), if_neg (show ¬ w = 0 by omega), tmod_pos hf, tdiv_pos hf, w64 (n := w - f % w) (by omega) (by omega), hcv, w64 (n := f / w) (by omega) (by omega), if_pos (by simp; omega),
        w64 (n := f + cntV w f n) (by omega) (by omega), w64 (n := n - cntV w f n) (by omega) (by omega), h1]
      simp
    · refine ⟨[], ?_, by unfold IsP; omega, by simp⟩
      rw [if_neg hn0]; simp
theorem pieces_in {w f n : Int} (hw : 1 ≤ w) (hw2 : w ≤ 9223372036854775807) (hf : 0 ≤ f) (hn : 1 ≤ n) (hf2 : f ≤ 1099511627776) (hn2 : n ≤ 1099511627776 - f) (hn3 : n ≤ 50000) (k : Nat) (hk : n.toNat < k) :
    ∃ l, stripe_Pieces k w f n = some (true, l) ∧ IsP w f n l ∧ l.length ≤ n.toNat := by
  obtain ⟨l, h1, h2, h3⟩ := pieces_loop (fun a b => some (a, b)) k hw hw2 k f n true [] hf (by omega) (by omega) hk (by simp; omega)
  refine ⟨l, ?_, h2, h3⟩
  simp only [stripe_Pieces, Bool.cond_decide, stripe_Pieces_j0, stripe_Pieces_k0, stripe_Pieces_k1, cond_true]
  rw [if_neg (by omega), if_neg (by omega), if_neg (by omega), if_neg (by omega), w64 (n := 1099511627776 - f) (by omega) (by omega), if_neg (by omega)]
  simpa using h1
theorem pieces_no {w f n : Int} (h : ¬ (1 ≤ w ∧ 0 ≤ f ∧ 1 ≤ n ∧ f ≤ 1099511627776 ∧ n ≤ 1099511627776 - f)) (k : Nat) : stripe_Pieces k w f n = some (true, []) := by
  simp only [stripe_Pieces, Bool.cond_decide, stripe_Pieces_j0, stripe_Pieces_k0, stripe_Pieces_k1, cond_true]
  by_cases h1 : w < 1
  · rw [if_pos h1]
  by_cases h2 : f < 0
  · rw [if_neg h1, if_pos h2]
  by_cases h3 : n < 1
  · rw [if_neg h1, if_neg h2, if_pos h3]
  by_cases h4 : 1099511627776 < f
  · rw [if_neg h1, if_neg h2, if_neg h3, if_pos h4]
  rw [if_neg h1, if_neg h2, if_neg h3, if_neg h4, w64 (n := 1099511627776 - f) (by omega) (by omega), if_pos (by omega)]
theorem drop_at {α : Type} (L : List α) (i : Nat) (p : α) (l : List α) (h : L.drop i = p :: l) : L[i]? = some p ∧ i < L.length ∧ L.drop (i + 1) = l := by
  have hi : i < L.length := by
    rcases Nat.lt_or_ge i L.length with h1 | h1
    · exact h1
    · rw [List.drop_eq_nil_of_le h1] at h; cases h
  rw [List.drop_eq_getElem_cons hi] at h
  injection h with h1 h2
  exact ⟨by rw [List.getElem?_eq_getElem hi, h1], hi, h2⟩
theorem speaks11 (d : Nat) : corbellaw11_speaks (d + 300) = some true := by kernel_rfl
theorem sp_j4 {R : Type} (e0 : Int → Bool → Int → Int → Int → Bool → List Pc → Int → Int → Int → Option R) (e1 : Int → Int → Int → Int → Bool → List Pc → Int → Int → Int → Option R) (k : Nat) (w t n i : Int) (nl : Bool) (L : List Pc) (a b c : Int) :
    corbellaw11_StripePieces_j4 e0 e1 k w t n i false nl L a b c = e1 w t n i nl L a b c := rfl
theorem pieces_law {R : Type} (e0 : Bool → Int → Option R) (e1 : Int → Option R) (k : Nat) {w : Int} (hw : 1 ≤ w) (hw2 : w ≤ 9223372036854775807) (L : List Pc) (nl : Bool) (hL : L.length ≤ 100000) (l : List Pc) :
    ∀ (j i : Nat) (t n : Int), i ≤ L.length → L.drop i = l → IsP w t n l → 0 ≤ t → 0 ≤ n → t + n ≤ 3000000000000 → (0 < i → l ≠ [] → t % w = 0) → l.length < j →
      corbellaw11_StripePieces_l2 e0 e1 k j w t n (i : Int) nl L = e1 0 := by
  induction l with
  | nil =>
    intro j i t n hi hd hp ht hn hb hz hk
    obtain ⟨j, rfl⟩ : ∃ q, j = q + 1 := ⟨j - 1, by omega⟩
    have hil : i = L.length := by
      have : (L.drop i).length = 0 := by rw [hd]; rfl
      rw [List.length_drop] at this; omega
    unfold IsP at hp
    show corbellaw11_StripePieces_l2s _ e0 e1 k w t n (i : Int) nl L = _
    simp only [corbellaw11_StripePieces_l2s, Bool.cond_decide, lenI_eq]
    rw [if_neg (by omega), hp]
  | cons p l ih =>
    intro j i t n hi hd hp ht hn hb hz hk
    obtain ⟨j, rfl⟩ : ∃ q, j = q + 1 := ⟨j - 1, by omega⟩
    obtain ⟨h1, h2, h3⟩ := drop_at L i p l hd
    obtain ⟨hn0, rfl, hp2⟩ := hp
    have hc := cntV_bounds (f := t) hw hn0
    have hm1 := Int.emod_lt_of_pos t (show 0 < w by omega)
    have hdv0 := Int.ediv_nonneg ht (show 0 ≤ w by omega)
    have hdv1 : t / w ≤ t := Int.ediv_le_self _ ht
    have hz' : 0 < i → t % w = 0 := fun h => hz h (by simp)
    have hnext : l ≠ [] → t % w + cntV w t n = w := by
      intro hl
      rcases hc.2.2.2.2 with h | h
      · exact h
      · exfalso
        match l, hl, hp2 with
        | q :: l, _, hp2 => have := hp2.1; omega
    have hlen : l.length = L.length - (i + 1) := by rw [← h3, List.length_drop]
    have hrec := ih j (i + 1) (t + cntV w t n) (n - cntV w t n) (by omega) h3 hp2 (by omega) (by omega) (by omega)
      (by
        intro _ hl
        have e := hnext hl
        have hq := Int.emod_add_mul_ediv t w
        have : t + cntV w t n = w * (t / w + 1) := by rw [Int.mul_add]; omega
        rw [this, Int.mul_emod_right])
      (by simp only [List.length_cons] at hk; omega)
    show corbellaw11_StripePieces_l2s _ e0 e1 k w t n (i : Int) nl L = _
    unfold corbellaw11_StripePieces_l2s
    simp only [lenI_eq, Int.toNat_natCast]
    rw [decide_eq_true (show (i : Int) < (L.length : Int) by omega), decide_eq_true (show (0 : Int) ≤ (i : Int) by omega), h1]
    simp only [cond_true, Bool.and_self, optb]
    have wi : Unit → wrap64 ((i : Int) + 1) = ((i + 1 : Nat) : Int) := fun _ => by rw [w64 (by omega) (by omega)]; omega
    -- behind the tests
    have go : ∀ (b : Bool), b = false → corbellaw11_StripePieces_j4 (corbellaw11_StripePieces_k2 (fun v_871 v_872 v_873 v_874 v_875 v_876 v_877 => e0 v_872 v_874) (fun v_878 v_879 v_880 v_881 v_882 v_883 =>
        corbellaw11_StripePieces_j6 (fun v_890 v_891 v_892 v_893 v_894 v_895 => corbellaw11_StripePieces_l2 e0 e1 k j v_890 v_891 v_892 v_893 v_894 v_895) k v_878 v_879 v_880 v_881 v_882 v_883) k)
        (corbellaw11_StripePieces_k3 (fun v_871 v_872 v_873 v_874 v_875 v_876 v_877 => e0 v_872 v_874) (fun v_878 v_879 v_880 v_881 v_882 v_883 =>
        corbellaw11_StripePieces_j6 (fun v_890 v_891 v_892 v_893 v_894 v_895 => corbellaw11_StripePieces_l2 e0 e1 k j v_890 v_891 v_892 v_893 v_894 v_895) k v_878 v_879 v_880 v_881 v_882 v_883) k) k w t n i b nl L (t / w) (t % w) (cntV w t n) = e1 0 := by
      intro b hb
      subst hb
      rw [sp_j4]
      unfold corbellaw11_StripePieces_k3 corbellaw11_StripePieces_j5 corbellaw11_StripePieces_j6
      rw [w64 (n := t + cntV w t n) (by omega) (by omega), w64 (n := n - cntV w t n) (by omega) (by omega)]
      show corbellaw11_StripePieces_l2 e0 e1 k j w (t + cntV w t n) (n - cntV w t n) (wrap64 ((i : Int) + 1)) nl L = e1 0
      rw [wi (), hrec]
    simp only [corbellaw11_StripePieces_j3, Bool.cond_decide, ← decide_not, lenI_eq]
    rw [if_neg (by omega), if_neg (by omega), if_neg (by omega), w64 (n := w - t % w) (by omega) (by omega), if_neg (by omega), if_neg (by omega), tdiv_pos ht, tmod_pos ht, w64 (n := t / w) (by omega) (by omega), if_neg (by simp), if_neg (by omega), if_neg (by simp), if_neg (by omega),
      wi (), w64 (n := t % w + cntV w t n) (by omega) (by omega)]
    have f1 : ((i + 1 : Nat) : Int) < (L.length : Int) → decide (¬ t % w + cntV w t n = w) = false := fun h => by
      rw [decide_eq_false_iff_not]
      have := hnext (by intro e; rw [e] at hlen; simp at hlen; omega)
      omega
    by_cases hi0 : 0 < (i : Int)
    · rw [if_pos hi0, if_neg (by have := hz' (by omega); omega)]
      by_cases h : ((i + 1 : Nat) : Int) < (L.length : Int)
      · rw [if_pos h]; exact go _ (f1 h)
      · rw [if_neg h]; exact go _ rfl
    · rw [if_neg hi0]
      by_cases h : ((i + 1 : Nat) : Int) < (L.length : Int)
      · rw [if_pos h]; exact go _ (f1 h)
      · rw [if_neg h]; exact go _ rfl
theorem pieces_j0 {w f n : Int} (hw2 : w ≤ 9223372036854775807) (hn : n ≤ 5000) (k : Nat) (hk : 10000 ≤ k) : corbellaw11_StripePieces_j0 (corbellaw11_StripePieces_k4 k) k w f n = some true := by
  unfold corbellaw11_StripePieces_j0
  by_cases h : 1 ≤ w ∧ 0 ≤ f ∧ 1 ≤ n ∧ f ≤ 1099511627776 ∧ n ≤ 1099511627776 - f
  · obtain ⟨l, h1, h2, h3⟩ := pieces_in (w := w) (f := f) (n := n) h.1 hw2 h.2.1 h.2.2.1 h.2.2.2.1 h.2.2.2.2 (by omega) k (by omega)
    rw [h1]
    simp only [optb, Bool.cond_decide]
    rw [if_neg (by omega), if_neg (by omega), if_neg (by omega), if_neg (by omega), w64 (n := 1099511627776 - f) (by omega) (by omega), decide_eq_false (by omega)]
    show corbellaw11_StripePieces_k1 _ k w f n true l = _
    unfold corbellaw11_StripePieces_k1
    have := pieces_law (R := Bool) (fun v _ => corbellaw11_StripePieces_k4 k v) (fun v => corbellaw11_StripePieces_k4 k (decide (v = 0))) k h.1 hw2 l true (by omega) l k 0 f n (by omega) (by simp) h2 h.2.1 (by omega) (by omega) (by omega) (by omega)
    exact this
  · rw [pieces_no h k]
    simp only [optb, Bool.cond_decide]
    by_cases h1 : w < 1
    · rw [if_pos h1]; rfl
    by_cases h2 : f < 0
    · rw [if_neg h1, if_pos h2]; rfl
    by_cases h3 : n < 1
    · rw [if_neg h1, if_neg h2, if_pos h3]; rfl
    by_cases h4 : 1099511627776 < f
    · rw [if_neg h1, if_neg h2, if_neg h3, if_pos h4]; rfl
    rw [if_neg h1, if_neg h2, if_neg h3, if_neg h4, w64 (n := 1099511627776 - f) (by omega) (by omega), decide_eq_true (by omega)]; rfl
theorem StripePieces : StripePiecesPure := by
  intro w f n hw hf hn
  obtain ⟨d, hd⟩ : ∃ d : Nat, 20000 ≤ d := ⟨_, Nat.le_refl _⟩
  refine ⟨d + 300, ?_⟩
  unfold corbellaw11_StripePieces
  rw [speaks11 d]
  simp only [optb, Bool.not_true, cond_false, Bool.cond_decide]
  have hm : bitop .and .i64 n 4095 = n % 4096 := and_mask n 12 (by decide)
  rw [hm]
  have h0 : (0 : Int) ≤ n % 4096 := Int.emod_nonneg _ (by decide)
  have h4 : n % 4096 < 4096 := Int.emod_lt_of_pos _ (by decide)
  by_cases h : 5000 < n
  · rw [if_pos h]; exact pieces_j0 (wf_i64 hw).2 (by omega) _ (by omega)
  · rw [if_neg h]; exact pieces_j0 (wf_i64 hw).2 (Int.not_lt.1 h) _ (by omega)
end Go.Proofs.Ytkokbcijgikkgaa.Pure
