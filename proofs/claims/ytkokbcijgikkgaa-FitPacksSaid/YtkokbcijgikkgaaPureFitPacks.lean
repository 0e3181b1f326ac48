/- FitPacks: so many entries fit into so many blocks and no more: the pure statement over whole numbers; no conditions. -/
import Derived.Test.YtkokbcijgikkgaaPFitPacksx1
namespace Go.Proofs.Ytkokbcijgikkgaa.Pure
open Go.RowKit Go.Proofs.Ytkokbcijgikkgaa.PFitPacks Go.Proofs.YtkokbcijgikkgaaW.PrintWords Go.Proofs.YtkokbcijgikkgaaW.PrintLast

theorem entries_low (a : Int) (h : a < 2 ∨ a > 1048576) : fit_Entries.f a = some 0 := by
  unfold fit_Entries.f
  by_cases h2 : a < 2
  · rw [if_pos h2]
  · rw [if_neg h2, if_pos (by omega)]

theorem entries_in (a : Int) (h0 : 2 ≤ a) (h1 : a ≤ 1048576) : fit_Entries.f a = some (a / 7 * 6 + (if a % 7 = 0 then 0 else a % 7 - 1)) := by
  unfold fit_Entries.f
  rw [if_neg (by omega), if_neg (by omega)]
  congr 1
  rw [Int.tdiv_eq_ediv_of_nonneg (by omega), Int.tmod_eq_emod_of_nonneg (by omega)]
  unfold mx wrap64
  split <;> split <;> omega

theorem pack_in (a : Int) (h0 : 0 ≤ a) (h1 : a ≤ 1048576) : pick_Pack.f a 0 = some (a + (a + 5) / 6) := by
  unfold pick_Pack.f
  rw [if_neg (by omega), if_neg (by omega), if_neg (by omega), if_neg (by omega)]
  congr 1
  have e : wrap64 (wrap64 (wrap64 (a + 0) + 6) - 1) = a + 5 := by unfold wrap64; omega
  rw [e, Int.tdiv_eq_ediv_of_nonneg (by omega)]
  unfold wrap64; omega

theorem speaks21 : corbellaw21_speaks.f = some true := by
  unfold corbellaw21_speaks.f
  rw [entries_in 7 (by decide) (by decide), entries_in 8 (by decide) (by decide), entries_in 9 (by decide) (by decide)]
  decide

theorem FitPacks : corbellaw21_FitPacks.Pure := by
  intro a hw
  refine ⟨1, ?_⟩
  unfold corbellaw21_FitPacks.f
  rw [speaks21]
  simp only [Option.bind_some, if_true]
  by_cases hlo : a < 2
  · rw [if_pos hlo]
    simp only [corbellaw21_FitPacks.j0, if_true]
    rw [entries_low a (.inl hlo)]; rfl
  · rw [if_neg hlo]
    by_cases hhi : a > 1048576
    · simp only [corbellaw21_FitPacks.j0, decide_eq_true hhi, if_true]
      rw [entries_low a (.inr hhi)]; rfl
    · have hd : decide (a > 1048576) = false := decide_eq_false hhi
      simp only [corbellaw21_FitPacks.j0]
      rw [hd, if_neg (by decide), entries_in a (by omega) (by omega)]
      simp only [Option.bind_some]
      generalize hn : a / 7 * 6 + (if a % 7 = 0 then 0 else a % 7 - 1) = n
      have hn' : (a % 7 = 0 ∧ n = a / 7 * 6) ∨ (a % 7 ≠ 0 ∧ n = a / 7 * 6 + (a % 7 - 1)) := by
        rw [← hn]; split <;> omega
      clear hn
      have h1 : n ≥ 1 := by omega
      have hw1 : wrap64 (n + 1) = n + 1 := by unfold wrap64; omega
      rw [if_pos h1, pack_in n (by omega) (by omega), hw1, pack_in (n + 1) (by omega) (by omega)]
      simp only [Option.bind_some]
      rw [if_pos (by omega)]
      congr 1
      apply decide_eq_true
      omega

end Go.Proofs.Ytkokbcijgikkgaa.Pure
