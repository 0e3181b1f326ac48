/- StripeBranches: the pure statement, over numbers and lists alone; no conditions. -/
import Derived.Test.YtkokbcijgikkgaaStatStripeBranches
set_option linter.unusedVariables false
set_option linter.unusedSimpArgs false
namespace Go.Proofs.Ytkokbcijgikkgaa.Pure
open Go Go.RowKit Go.Proofs.Ytkokbcijgikkgaa.Ev
/-! ### whole numbers -/
theorem wf_i64 {n : Int} (h : Ty.wf (.int .i64) n) : -9223372036854775808 ≤ n ∧ n ≤ 9223372036854775807 := by
  have h : (Lit.int .i64 n).wf = true := h
  simpa [Lit.wf, IntKind.min, IntKind.max, IntKind.signed, IntKind.bits] using h
theorem w64 {n : Int} (h0 : -9223372036854775808 ≤ n) (h1 : n ≤ 9223372036854775807) : wrap64 n = n := by unfold wrap64; omega
theorem tdiv_pos {a b : Int} (ha : 0 ≤ a) : Int.tdiv a b = a / b := Int.tdiv_eq_ediv_of_nonneg ha
theorem tmod_pos {a b : Int} (ha : 0 ≤ a) : Int.tmod a b = a % b := Int.tmod_eq_emod_of_nonneg ha
theorem bytesOf_append (a b : List Int) : bytesOf a ++ bytesOf b = bytesOf (a ++ b) := by
  apply ByteArray.ext
  simp [bytesOf]
theorem cond_t {α : Type} {c : Bool} {a b : α} (h : c = true) : (bif c then a else b) = a := by rw [h]; rfl
theorem cond_f {α : Type} {c : Bool} {a b : α} (h : c = false) : (bif c then a else b) = b := by rw [h]; rfl
/-! ### rows of blocks -/
theorem speaks11 (d : Nat) : corbellaw11_speaks (d + 300) = some true := by kernel_rfl
def zeros64 : ByteArray := bytesOf (List.replicate (64 : Int).toNat (Ty.zero (.int .u8)))
theorem zeros64_size : zeros64.size = 64 := by kernel_rfl
def blockOf (s : ByteArray) : ByteArray := (s ++ zeros64).extract (0 : Int).toNat (64 : Int).toNat
theorem blockOf_size (s : ByteArray) : (blockOf s).size = 64 := by
  unfold blockOf
  rw [ByteArray.size_extract, ByteArray.size_append, zeros64_size]
  show min 64 (s.size + 64) - 0 = 64
  omega
theorem block_val (k : Nat) {s : ByteArray} (h : s.size ≤ 140737488351232) : corbellaw11_block k s false = some (blockOf s) := by
  unfold corbellaw11_block
  simp only [cond_false, Bool.cond_decide, sizeI_eq]
  have e : bytesOf (List.replicate (64 : Int).toNat (Ty.zero (.int .u8))) = zeros64 := rfl
  rw [e, if_pos (by rw [zeros64_size]; omega), if_pos (by rw [ByteArray.size_append, zeros64_size]; omega)]
  rfl
theorem clone_val (k : Nat) (nl : Bool) {l : List ByteArray} (h : l.length ≤ 100000) : ∃ c, slices_Clone k nl l = some (c, l) := by
  unfold slices_Clone
  cases hc : (nl && l.isEmpty) with
  | true =>
    rw [Bool.and_eq_true, List.isEmpty_iff] at hc
    exact ⟨true, by rw [hc.2]; rfl⟩
  | false =>
    refine ⟨false, ?_⟩
    simp only [cond_false, Bool.cond_decide]
    rw [if_pos (by simp; omega)]; rfl
theorem add_val (k : Nat) {room : Int} (nl : Bool) {l : List ByteArray} {b : ByteArray} (hb : b.size = 64) (hr : (l.length : Int) ≠ room) (hl : l.length ≤ 100000) : ∃ c, stripe_Row_Add k room nl l b = some ((room, (c, l ++ [b])), 0) := by
  obtain ⟨c, hc⟩ := clone_val k nl hl
  refine ⟨c, ?_⟩
  unfold stripe_Row_Add stripe_Row_Full
  simp only [← decide_not, Bool.cond_decide, sizeI_eq, lenI_eq, optb, hc]
  rw [if_neg (by omega), if_neg hr, if_pos (by simp; omega)]
theorem blk_val (k : Nat) (room : Int) (c : Bool) {l : List ByteArray} {b : ByteArray} {r : List ByteArray} {n : Int} (hn : n = l.length) : stripe_Row_Block k room c (l ++ b :: r) n = some (b, true) := by
  subst hn
  unfold stripe_Row_Block stripe_get stripe_get_j0 stripe_get_k1
  simp only [Bool.cond_decide, lenI_eq, cond_true]
  rw [if_neg (by omega), if_neg (by simp; omega), if_pos (by omega), Int.toNat_natCast, List.getElem?_append_right (Nat.le_refl _)]
  simp [optb]
theorem branches_loop {R : Type} (e0 : ByteArray → ByteArray → Int → Bool → List ByteArray → Option R) (k : Nat) (nl : Bool) (L : List ByteArray) (a b : ByteArray) (hL : ∀ s ∈ L, s.size ≤ 140737488351232) (m : Nat) :
    ∀ (j i : Nat) (c : Bool) (acc : List ByteArray), 13 - i = m → i ≤ 13 → acc.length = i → m < j → ∃ c' l', corbellaw11_StripeBranches_l0 e0 k j nl L a b (i : Int) 15 c acc = e0 a b 15 c' l' ∧ l'.length ≤ 13 := by
  induction m with
  | zero =>
    intro j i c acc hm hi ha hj
    obtain ⟨j, rfl⟩ : ∃ q, j = q + 1 := ⟨j - 1, by omega⟩
    refine ⟨c, acc, ?_, by omega⟩
    show corbellaw11_StripeBranches_l0s _ e0 k nl L a b (i : Int) 15 c acc = _
    simp only [corbellaw11_StripeBranches_l0s, Bool.cond_decide]
    by_cases h : (i : Int) < lenI L
    · rw [if_pos h, if_neg (by omega)]
    · rw [if_neg h]
  | succ m ih =>
    intro j i c acc hm hi ha hj
    obtain ⟨j, rfl⟩ : ∃ q, j = q + 1 := ⟨j - 1, by omega⟩
    show ∃ c' l', corbellaw11_StripeBranches_l0s _ e0 k nl L a b (i : Int) 15 c acc = _ ∧ _
    simp only [corbellaw11_StripeBranches_l0s, Bool.cond_decide, lenI_eq]
    by_cases h : (i : Int) < L.length
    · rw [if_pos h, if_pos (by omega), if_pos (by omega), Int.toNat_natCast, List.getElem?_eq_getElem (by omega)]
      have hs := hL _ (List.getElem_mem (show i < L.length by omega))
      obtain ⟨c2, h2⟩ := add_val k (room := 15) c (l := acc) (blockOf_size L[i]) (by omega) (by omega)
      simp only [optb, block_val k hs, h2]
      obtain ⟨c3, l3, h3, h4⟩ := ih j (i + 1) c2 (acc ++ [blockOf L[i]]) (by omega) (by omega) (by simp [ha]) (by omega)
      refine ⟨c3, l3, ?_, h4⟩
      rw [w64 (n := (i : Int) + 1) (by omega) (by omega)]
      exact h3
    · exact ⟨c, acc, by rw [if_neg h], by omega⟩
theorem StripeBranches : StripeBranchesPure := by
  intro x a b hx ha hb
  obtain ⟨d, hd⟩ : ∃ d : Nat, 20000 ≤ d := ⟨_, Nat.le_refl _⟩
  refine ⟨d + 300, ?_⟩
  obtain ⟨_, _, hL⟩ := hx
  unfold corbellaw11_StripeBranches
  rw [speaks11 d]
  have hnew : stripe_New (d + 300) 15 = some ((15, (true, [])), 0) := rfl
  simp only [optb, Bool.not_true, cond_false, hnew]
  obtain ⟨c, l, h1, h2⟩ := branches_loop (R := Bool) _ (d + 300) x.1 x.2 a b hL 13 (d + 300) 0 true [] rfl (by omega) rfl (by omega)
  refine Eq.trans h1 ?_
  have ba := block_val (d + 300) ha
  have bb := block_val (d + 300) hb
  obtain ⟨c1, h3⟩ := add_val (d + 300) (room := 15) c (l := l) (blockOf_size a) (by omega) (by omega)
  obtain ⟨c2, h4⟩ := add_val (d + 300) (room := 15) c (l := l) (blockOf_size b) (by omega) (by omega)
  obtain ⟨c3, h5⟩ := add_val (d + 300) (room := 15) c1 (l := l ++ [blockOf a]) (blockOf_size b) (by simp; omega) (by simp; omega)
  have cnt : ∀ r c (l : List ByteArray), stripe_Row_Count (d + 300) r c l = some (l.length : Int) := fun r c l => by unfold stripe_Row_Count; rw [lenI_eq]
  have g1 := blk_val (d + 300) 15 c1 (l := l) (b := blockOf a) (r := []) rfl
  have g2 := blk_val (d + 300) 15 c2 (l := l) (b := blockOf b) (r := []) rfl
  have g3 := blk_val (d + 300) 15 c3 (l := l) (b := blockOf a) (r := [blockOf b]) rfl
  simp only [cnt, ba, bb, h3, h4, h5, optb, corbellaw11_StripeBranches_j1, g1, g2, List.append_assoc, List.cons_append, List.nil_append, g3, corbellaw11_StripeBranches_j2, Bool.cond_decide]
  rw [if_pos trivial, if_pos (by rw [w64 (by omega) (by omega)]; simp), if_pos (by rw [w64 (by omega) (by omega)]; simp), if_pos trivial, if_pos trivial]
  rfl
end Go.Proofs.Ytkokbcijgikkgaa.Pure
