/- PlanParts: the pure statement, over numbers and lists alone; no conditions. -/
import Derived.Test.YtcikcikcjimcjaaStatPlanParts
set_option linter.unusedVariables false
set_option linter.unusedSimpArgs false
namespace Go.Proofs.Ytcikcikcjimcjaa.Pure
open Go.RowKit Go.Proofs.Ytcikcikcjimcjaa.PPlanParts Go.Proofs.YtcikcikcjimcjaaW.PrintWords Go.Proofs.YtcikcikcjimcjaaW.PrintLast Go.Proofs.YtcikcikcjimcjaaW.PrintMore
/-! ### whole numbers -/
theorem wf_i64 {n : Int} (h : (Lit.int .i64 n).wf = true) : -9223372036854775808 ≤ n ∧ n ≤ 9223372036854775807 := by
  simpa [Lit.wf, IntKind.min, IntKind.max, IntKind.signed, IntKind.bits] using h
theorem w64 {n : Int} (h0 : -9223372036854775808 ≤ n) (h1 : n ≤ 9223372036854775807) : wrap64 n = n := by unfold wrap64; omega
theorem w_succ {i : Nat} (h : i ≤ 1000000000000) : wrap64 ((i : Int) + 1) = ((i + 1 : Nat) : Int) := by rw [w64 (by omega) (by omega)]; omega
theorem tdiv_pos {a b : Int} (ha : 0 ≤ a) : Int.tdiv a b = a / b := Int.tdiv_eq_ediv_of_nonneg ha
theorem tmod_pos {a b : Int} (ha : 0 ≤ a) : Int.tmod a b = a % b := Int.tmod_eq_emod_of_nonneg ha
theorem div_step {n c : Int} (hc : 0 < c) (h0 : 0 ≤ n) : (n % c + 1 < c ∧ (n + 1) / c = n / c ∧ (n + 1) % c = n % c + 1) ∨ (n % c + 1 = c ∧ (n + 1) / c = n / c + 1 ∧ (n + 1) % c = 0) := by
  have h1 := Int.emod_add_mul_ediv n c
  have h2 := Int.emod_nonneg n (show c ≠ 0 by omega)
  have h3 := Int.emod_lt_of_pos n hc
  rcases Int.lt_or_le (n % c + 1) c with hlt | hge
  · refine .inl ⟨hlt, ?_, ?_⟩
    · have e : n + 1 = (n % c + 1) + (n / c) * c := by rw [Int.mul_comm (n / c)]; omega
      rw [e, Int.add_mul_ediv_right _ _ (by omega), Int.ediv_eq_zero_of_lt (by omega) hlt]; omega
    · have e : n + 1 = (n % c + 1) + c * (n / c) := by omega
      conv => lhs; rw [e]
      rw [Int.add_mul_emod_self_left]; exact Int.emod_eq_of_lt (by omega) hlt
  · refine .inr ⟨by omega, ?_, ?_⟩
    · have e : n + 1 = 0 + (n / c + 1) * c := by rw [Int.add_mul, Int.one_mul, Int.mul_comm (n / c)]; omega
      rw [e, Int.add_mul_ediv_right _ _ (by omega)]; simp
    · have e : n + 1 = 0 + c * (n / c + 1) := by rw [Int.mul_add, Int.mul_one]; omega
      rw [e, Int.add_mul_emod_self_left]; simp
/-! ### geometries -/
def GoodG (d z b o a : Int) : Prop := 3 ≤ d ∧ d ≤ 16 ∧ 5 ≤ z ∧ z ≤ 64 ∧ 4 ≤ b ∧ b ≤ 256 ∧ 1 ≤ o ∧ o ≤ a ∧ a ≤ z
instance (d z b o a : Int) : Decidable (GoodG d z b o a) := by unfold GoodG; infer_instance

theorem within_eq (n lo hi : Int) : geom_within.f n lo hi = some (decide (lo ≤ n ∧ n ≤ hi)) := by
  unfold geom_within.f
  by_cases h : lo ≤ n
  · rw [if_pos h]; simp [h]
  · rw [if_neg h]; simp [h]

theorem good_eq (d z b o a : Int) : geom_Good.f d z b o a = some (decide (GoodG d z b o a)) := by
  unfold geom_Good.f GoodG
  simp only [within_eq, Option.bind_some]
  by_cases h1 : 3 ≤ d ∧ d ≤ 16
  · by_cases h2 : 5 ≤ z ∧ z ≤ 64
    · by_cases h3 : 4 ≤ b ∧ b ≤ 256
      · by_cases h4 : 1 ≤ o ∧ o ≤ a
        · simp [h1, h2, h3, h4]
        · rw [if_pos (decide_eq_true h1), if_pos (decide_eq_true h2), if_pos (decide_eq_true h3), decide_eq_false h4, if_neg (by decide)]
          congr 1; symm; apply decide_eq_false; omega
      · rw [if_pos (decide_eq_true h1), if_pos (decide_eq_true h2), decide_eq_false h3, if_neg (by decide)]
        congr 1; symm; apply decide_eq_false; omega
    · rw [if_pos (decide_eq_true h1), decide_eq_false h2, if_neg (by decide)]
      congr 1; symm; apply decide_eq_false; omega
  · rw [decide_eq_false h1, if_neg (by decide)]
    congr 1; symm; apply decide_eq_false; omega

theorem good_yes {d z b o a : Int} (h : GoodG d z b o a) : geom_Good.f d z b o a = some true := by rw [good_eq, decide_eq_true h]
theorem good_no {d z b o a : Int} (h : ¬ GoodG d z b o a) : geom_Good.f d z b o a = some false := by rw [good_eq, decide_eq_false h]

theorem zones_yes {d z b o a : Int} (h : GoodG d z b o a) : geom_Zones.f d z b o a = some (z - 3) := by
  unfold geom_Zones.f
  rw [good_yes h]; simp only [Option.bind_some, if_true]
  unfold GoodG at h
  rw [w64 (n := z - 2) (by omega) (by omega), w64 (by omega) (by omega)]
  congr 1; omega
theorem zones_no {d z b o a : Int} (h : ¬ GoodG d z b o a) : geom_Zones.f d z b o a = some 0 := by
  unfold geom_Zones.f
  rw [good_no h]; simp

theorem cap_bounds {d z b o a : Int} (h : GoodG d z b o a) : 8 ≤ (d - 1) * b ∧ (d - 1) * b ≤ 3840 := by
  unfold GoodG at h
  have h1 : (2 : Int) * 4 ≤ (d - 1) * b := Int.mul_le_mul (by omega) (by omega) (by omega) (by omega)
  have h2 : (d - 1) * b ≤ 15 * 256 := Int.mul_le_mul (by omega) (by omega) (by omega) (by omega)
  omega

theorem capacity_yes {d z b o a : Int} (h : GoodG d z b o a) : geom_Capacity.f d z b o a = some ((d - 1) * b) := by
  unfold geom_Capacity.f
  rw [good_yes h]; simp only [Option.bind_some, if_true]
  have hc := cap_bounds h
  unfold GoodG at h
  rw [w64 (n := d - 1) (by omega) (by omega), w64 (by omega) (by omega)]
theorem capacity_no {d z b o a : Int} (h : ¬ GoodG d z b o a) : geom_Capacity.f d z b o a = some 0 := by
  unfold geom_Capacity.f
  rw [good_no h]; simp

theorem there_yes {d z b o a : Int} (h : GoodG d z b o a) (zone row : Int) : geom_there.f d z b o a zone row = some (decide (0 ≤ zone ∧ zone ≤ z - 4 ∧ 0 ≤ row ∧ row ≤ b - 1)) := by
  unfold geom_there.f
  rw [zones_yes h]; simp only [Option.bind_some]
  unfold GoodG at h
  rw [w64 (n := z - 3 - 1) (by omega) (by omega), w64 (n := b - 1) (by omega) (by omega)]
  simp only [within_eq, Option.bind_some]
  by_cases h1 : 0 ≤ zone ∧ zone ≤ z - 3 - 1
  · rw [if_pos (decide_eq_true h1)]
    congr 1
    by_cases h2 : 0 ≤ row ∧ row ≤ b - 1
    · rw [decide_eq_true h2, decide_eq_true]; omega
    · rw [decide_eq_false h2, decide_eq_false]; omega
  · rw [decide_eq_false h1, if_neg (by decide)]
    congr 1; symm; apply decide_eq_false; omega
theorem there_no {d z b o a : Int} (h : ¬ GoodG d z b o a) (zone row : Int) : geom_there.f d z b o a zone row = some false := by
  unfold geom_there.f
  rw [zones_no h]; simp only [Option.bind_some]
  rw [w64 (n := 0 - 1) (by omega) (by omega)]
  simp only [within_eq, Option.bind_some]
  rw [decide_eq_false (by omega), if_neg (by decide)]

def InZR (z b zone row : Int) : Prop := 0 ≤ zone ∧ zone ≤ z - 4 ∧ 0 ≤ row ∧ row ≤ b - 1
instance (z b zone row : Int) : Decidable (InZR z b zone row) := by unfold InZR; infer_instance

theorem parity_yes {d z b o a : Int} (h : GoodG d z b o a) {zone row : Int} (hi : InZR z b zone row) : geom_Parity.f d z b o a zone row = some ((zone + row) % d) := by
  unfold geom_Parity.f
  rw [there_yes h, decide_eq_true (show 0 ≤ zone ∧ zone ≤ z - 4 ∧ 0 ≤ row ∧ row ≤ b - 1 from hi)]; simp only [Option.bind_some, if_true]
  unfold GoodG at h; unfold InZR at hi
  rw [if_neg (by omega), w64 (by omega) (by omega), tmod_pos (by omega)]
theorem parity_out {d z b o a : Int} (h : GoodG d z b o a) {zone row : Int} (hi : ¬ InZR z b zone row) : geom_Parity.f d z b o a zone row = some (-1) := by
  unfold geom_Parity.f
  rw [there_yes h, decide_eq_false (show ¬ (0 ≤ zone ∧ zone ≤ z - 4 ∧ 0 ≤ row ∧ row ≤ b - 1) from hi)]; simp
theorem parity_no {d z b o a : Int} (h : ¬ GoodG d z b o a) (zone row : Int) : geom_Parity.f d z b o a zone row = some (-1) := by
  unfold geom_Parity.f
  rw [there_no h]; simp

def InZB (d z b zone block : Int) : Prop := 0 ≤ zone ∧ zone ≤ z - 4 ∧ 0 ≤ block ∧ block ≤ (d - 1) * b - 1
instance (d z b zone block : Int) : Decidable (InZB d z b zone block) := by unfold InZB; infer_instance

theorem row_bounds {d b block : Int} (hd : 3 ≤ d) (h0 : 0 ≤ block) (h1 : block ≤ (d - 1) * b - 1) : 0 ≤ block / (d - 1) ∧ block / (d - 1) ≤ b - 1 ∧ 0 ≤ block % (d - 1) ∧ block % (d - 1) < d - 1 := by
  refine ⟨Int.ediv_nonneg h0 (by omega), ?_, Int.emod_nonneg _ (by omega), Int.emod_lt_of_pos _ (by omega)⟩
  have h2 : block / (d - 1) < b := by
    apply Int.ediv_lt_of_lt_mul (by omega)
    rw [Int.mul_comm]; omega
  omega

def slotOf (d zone row k : Int) : Int := ((zone + row) % d + 1 + k) % d

theorem place_in {d z b o a : Int} (h : GoodG d z b o a) {zone block : Int} (hi : InZB d z b zone block) :
    geom_Place.f d z b o a zone block = some (block / (d - 1), slotOf d zone (block / (d - 1)) (block % (d - 1)), true) := by
  have hc := cap_bounds h
  have hr := row_bounds (d := d) (b := b) (by unfold GoodG at h; omega) hi.2.2.1 hi.2.2.2
  have hz : InZR z b zone (block / (d - 1)) := ⟨hi.1, hi.2.1, hr.1, hr.2.1⟩
  have hp : 0 ≤ (zone + block / (d - 1)) % d ∧ (zone + block / (d - 1)) % d < d := ⟨Int.emod_nonneg _ (by unfold GoodG at h; omega), Int.emod_lt_of_pos _ (by unfold GoodG at h; omega)⟩
  unfold geom_Place.f
  rw [there_yes h, decide_eq_true (by unfold InZB at hi; unfold GoodG at h; omega)]
  simp only [Option.bind_some, if_true]
  rw [capacity_yes h]; simp only [Option.bind_some]
  have hg := h
  unfold GoodG at h; unfold InZB at hi
  rw [w64 (n := (d - 1) * b - 1) (by omega) (by omega), within_eq, decide_eq_true (by omega)]
  simp only [Option.bind_some, if_true]
  rw [w64 (n := d - 1) (by omega) (by omega), if_neg (by omega), tdiv_pos (by omega), w64 (n := block / (d - 1)) (by omega) (by omega), parity_yes hg hz]
  simp only [Option.bind_some]
  rw [if_neg (by omega), tmod_pos (a := block) (by omega), w64 (n := (zone + block / (d - 1)) % d + 1) (by omega) (by omega), w64 (by omega) (by omega), tmod_pos (by omega)]
  rfl
theorem place_out {d z b o a : Int} (h : GoodG d z b o a) {zone block : Int} (hi : ¬ InZB d z b zone block) : geom_Place.f d z b o a zone block = some (0, 0, false) := by
  have hc := cap_bounds h
  unfold geom_Place.f
  rw [there_yes h]; simp only [Option.bind_some]
  by_cases hz : 0 ≤ zone ∧ zone ≤ z - 4 ∧ (0 : Int) ≤ 0 ∧ 0 ≤ b - 1
  · rw [if_pos (decide_eq_true hz), capacity_yes h]; simp only [Option.bind_some]
    rw [w64 (n := (d - 1) * b - 1) (by omega) (by omega), within_eq, decide_eq_false (by unfold InZB at hi; omega)]
    simp
  · rw [decide_eq_false hz, if_neg (by decide)]
theorem place_no {d z b o a : Int} (h : ¬ GoodG d z b o a) (zone block : Int) : geom_Place.f d z b o a zone block = some (0, 0, false) := by
  unfold geom_Place.f
  rw [there_no h]; simp
/-! ### what lies at a spot -/
def kOf (d p drive : Int) : Int := if p < drive then drive - p - 1 else drive - p - 1 + d
def sOf (d p k : Int) : Int := if p + 1 + k < d then p + 1 + k else p + 1 + k - d
theorem kOf_mod {d p drive : Int} (h0 : 0 ≤ p) (h1 : p < d) (h2 : 0 ≤ drive) (h3 : drive < d) (h4 : drive ≠ p) : (drive - p - 1 + d) % d = kOf d p drive := by
  unfold kOf
  split
  · rw [Int.add_emod_right]; exact Int.emod_eq_of_lt (by omega) (by omega)
  · exact Int.emod_eq_of_lt (by omega) (by omega)
theorem kOf_range {d p drive : Int} (h0 : 0 ≤ p) (h1 : p < d) (h2 : 0 ≤ drive) (h3 : drive < d) (h4 : drive ≠ p) : 0 ≤ kOf d p drive ∧ kOf d p drive ≤ d - 2 := by
  unfold kOf; split <;> omega
theorem sOf_mod {d p k : Int} (h0 : 0 ≤ p) (h1 : p < d) (h2 : 0 ≤ k) (h3 : k ≤ d - 2) : (p + 1 + k) % d = sOf d p k := by
  unfold sOf
  split
  · exact Int.emod_eq_of_lt (by omega) (by omega)
  · rw [show p + 1 + k = (p + 1 + k - d) + d by omega, Int.add_emod_right, show p + 1 + k - d + d - d = p + 1 + k - d by omega]; exact Int.emod_eq_of_lt (by omega) (by omega)
theorem sOf_range {d p k : Int} (h0 : 0 ≤ p) (h1 : p < d) (h2 : 0 ≤ k) (h3 : k ≤ d - 2) : 0 ≤ sOf d p k ∧ sOf d p k < d ∧ sOf d p k ≠ p := by
  unfold sOf; split <;> omega
theorem sOf_kOf {d p drive : Int} (h0 : 0 ≤ p) (h1 : p < d) (h2 : 0 ≤ drive) (h3 : drive < d) (h4 : drive ≠ p) : sOf d p (kOf d p drive) = drive := by
  unfold sOf kOf; split <;> split <;> omega
theorem kOf_sOf {d p k : Int} (h0 : 0 ≤ p) (h1 : p < d) (h2 : 0 ≤ k) (h3 : k ≤ d - 2) : kOf d p (sOf d p k) = k := by
  unfold sOf kOf; split <;> split <;> omega
theorem par_range (d zone row : Int) (hd : 3 ≤ d) : 0 ≤ (zone + row) % d ∧ (zone + row) % d < d := ⟨Int.emod_nonneg _ (by omega), Int.emod_lt_of_pos _ (by omega)⟩

theorem slotOf_eq {d zone row k : Int} (hd : 3 ≤ d) (h2 : 0 ≤ k) (h3 : k ≤ d - 2) : slotOf d zone row k = sOf d ((zone + row) % d) k :=
  sOf_mod (par_range d zone row hd).1 (par_range d zone row hd).2 h2 h3

theorem mul_row {d b row : Int} (hd : 3 ≤ d) (h0 : 0 ≤ row) (h1 : row ≤ b - 1) : 0 ≤ row * (d - 1) ∧ row * (d - 1) ≤ (d - 1) * b - (d - 1) := by
  refine ⟨Int.mul_nonneg h0 (by omega), ?_⟩
  have := Int.mul_le_mul_of_nonneg_right h1 (show 0 ≤ d - 1 by omega)
  rw [Int.sub_mul, Int.one_mul, Int.mul_comm b] at this
  exact this
theorem row_div {d row k : Int} (hd : 3 ≤ d) (h2 : 0 ≤ k) (h3 : k ≤ d - 2) : (row * (d - 1) + k) / (d - 1) = row ∧ (row * (d - 1) + k) % (d - 1) = k := by
  constructor
  · rw [Int.add_comm, Int.add_mul_ediv_right _ _ (by omega), Int.ediv_eq_zero_of_lt h2 (by omega)]; omega
  · rw [Int.add_comm, Int.add_mul_emod_self_right]; exact Int.emod_eq_of_lt h2 (by omega)

/-! ### the pieces of a range -/
theorem divmod_of {w q e x : Int} (hw : 0 < w) (hx : x = w * q + e) (h0 : 0 ≤ e) (h1 : e < w) : x / w = q ∧ x % w = e := by
  subst hx
  constructor
  · rw [Int.add_comm, Int.add_mul_ediv_left _ _ (by omega), Int.ediv_eq_zero_of_lt h0 h1]; omega
  · rw [Int.add_comm, Int.add_mul_emod_self_left]; exact Int.emod_eq_of_lt h0 h1
def cntV (w f n : Int) : Int := if w - f % w < n then w - f % w else n
def IsP (w : Int) : Int → Int → List S86 → Prop
  | _, n, [] => n = 0
  | f, n, p :: l => 0 < n ∧ p = ⟨f / w, f % w, cntV w f n⟩ ∧ IsP w (f + cntV w f n) (n - cntV w f n) l
theorem cntV_bounds {w f n : Int} (hw : 1 ≤ w) (hn : 0 < n) : 1 ≤ cntV w f n ∧ cntV w f n ≤ n ∧ 0 ≤ f % w ∧ f % w + cntV w f n ≤ w ∧ (f % w + cntV w f n = w ∨ cntV w f n = n) := by
  have h0 := Int.emod_nonneg f (show w ≠ 0 by omega)
  have h1 := Int.emod_lt_of_pos f (show 0 < w by omega)
  unfold cntV
  split <;> omega
theorem pieces_loop {w : Int} (hw : 1 ≤ w) (hw2 : w ≤ 9223372036854775807) (k : Nat) :
    ∀ (f n : Int) (acc : List S86), 0 ≤ f → 0 ≤ n → f + n ≤ 3000000000000 → n.toNat < k → acc.length + n.toNat ≤ 100000 → ∃ l, stripe_Pieces.l0 k w f n acc = some (acc ++ l) ∧ IsP w f n l ∧ l.length ≤ n.toNat := by
  induction k with
  | zero => intro f n acc _ _ _ hk _; omega
  | succ k ih =>
    intro f n acc hf hn hb hk ha
    by_cases hn0 : n > 0
    · have hc := cntV_bounds (f := f) hw hn0
      have hm1 := Int.emod_lt_of_pos f (show 0 < w by omega)
      have hdv0 := Int.ediv_nonneg hf (show 0 ≤ w by omega)
      have hdv1 : f / w ≤ f := Int.ediv_le_self _ hf
      have hcv : mn n (w - f % w) = cntV w f n := by unfold mn cntV; rfl
      obtain ⟨l, h1, h2, h3⟩ := ih (f + cntV w f n) (n - cntV w f n) (acc ++ [⟨f / w, f % w, cntV w f n⟩]) (by omega) (by omega) (by omega) (by omega) (by simp; omega)
      refine ⟨⟨f / w, f % w, cntV w f n⟩ :: l, ?_, ⟨hn0, rfl, h2⟩, by simp; omega⟩
      simp only [stripe_Pieces.l0]
      rw [if_pos hn0, if_neg (by omega), if_pos (by omega), tmod_pos hf, tdiv_pos hf, w64 (n := w - f % w) (by omega) (by omega), hcv, w64 (n := f + cntV w f n) (by omega) (by omega), w64 (n := n - cntV w f n) (by omega) (by omega), w64 (n := f / w) (by omega) (by omega), h1]
      simp
    · refine ⟨[], ?_, by unfold IsP; omega, by simp⟩
      simp only [stripe_Pieces.l0]
      rw [if_neg hn0]; simp
theorem pieces_in {w f n : Int} (hw : 1 ≤ w) (hw2 : w ≤ 9223372036854775807) (hf : 0 ≤ f) (hn : 1 ≤ n) (hf2 : f ≤ 1099511627776) (hn2 : n ≤ 1099511627776 - f) (hn3 : n ≤ 50000) (k : Nat) (hk : n.toNat + 1 < k) :
    ∃ l, stripe_Pieces.f k w f n = some l ∧ IsP w f n l ∧ l.length ≤ n.toNat := by
  obtain ⟨k, rfl⟩ : ∃ q, k = q + 1 := ⟨k - 1, by omega⟩
  obtain ⟨l, h1, h2, h3⟩ := pieces_loop hw hw2 k f n [] hf (by omega) (by omega) (by omega) (by simp; omega)
  refine ⟨l, ?_, h2, h3⟩
  unfold stripe_Pieces.f
  rw [if_neg (by omega), if_neg (by omega), if_neg (by omega), if_neg (by omega), w64 (n := 1099511627776 - f) (by omega) (by omega), decide_eq_false (by omega)]
  simp only [stripe_Pieces.j0]
  rw [if_neg (by decide), h1]; simp
/-! ### the steps of a write -/
def blockSteps (d zone stop b : Int) : List S37 :=
  ⟨1, slotOf d zone (b / (d - 1)) (b % (d - 1)), b / (d - 1), b, 0⟩ :: (if b % (d - 1) = d - 2 then [⟨2, (zone + b / (d - 1)) % d, b / (d - 1), 0, 0⟩] else if b = stop - 1 then [⟨3, (zone + b / (d - 1)) % d, b / (d - 1), 0, b % (d - 1) + 1⟩] else [])
def stepsR (d zone stop : Int) : Nat → Int → List S37
  | 0, _ => []
  | m + 1, b => blockSteps d zone stop b ++ stepsR d zone stop m (b + 1)
theorem blockSteps_length (d zone stop b : Int) : (blockSteps d zone stop b).length ≤ 2 := by
  unfold blockSteps; split
  · simp
  · split <;> simp
theorem stepsR_length (d zone stop : Int) (m : Nat) : ∀ b, (stepsR d zone stop m b).length ≤ 2 * m := by
  induction m with
  | zero => intro b; simp [stepsR]
  | succ m ih =>
    intro b
    have h1 := blockSteps_length d zone stop b
    have h2 := ih (b + 1)
    simp only [stepsR, List.length_append]; omega
theorem stepsR_add (d zone stop : Int) (i : Nat) : ∀ (j : Nat) (b : Int), stepsR d zone stop (i + j) b = stepsR d zone stop i b ++ stepsR d zone stop j (b + i) := by
  induction i with
  | zero => intro j b; simp [stepsR]
  | succ i ih =>
    intro j b
    rw [show i + 1 + j = (i + j) + 1 by omega]
    simp only [stepsR, ih, List.append_assoc]
    rw [show b + 1 + (i : Int) = b + ((i + 1 : Nat) : Int) by omega]

theorem write_l1 {d z b o a : Int} (h : GoodG d z b o a) {zone : Int} (hz0 : 0 ≤ zone) (hz1 : zone ≤ z - 4) (stop : Int) (L : List S86) (ln i r first cnt f : Int) (tail : List S37) (K : Nat)
    (hf : f = (d - 1) * r + first) (hr0 : 0 ≤ r) (hr1 : r ≤ b - 1) (hfi : 0 ≤ first) (hfc : first + cnt ≤ d - 1) (hend : first + cnt = d - 1 ∨ f + cnt = stop) (hst : f + cnt ≤ stop) (hi : wrap64 (i + 1) = i + 1)
    (N : Nat) (hcont : ∀ (k : Nat) (acc : List S37), K ≤ k → acc.length + N ≤ 20000 → plan_Write.l0 k zone acc (d - 1) L ln (i + 1) d z b o a = some (acc ++ tail, 0)) (m : Nat) :
    ∀ (k : Nat) (t : Int) (acc : List S37), 0 ≤ t → t + m + 1 = cnt → K + m + 2 ≤ k → acc.length + 2 * m + 2 + N ≤ 20000 →
      plan_Write.l1 k zone acc (d - 1) f (f + t) L ln i d z b o a r first cnt = some (acc ++ stepsR d zone stop (m + 1) (f + t) ++ tail, 0) := by
  have hg : 3 ≤ d ∧ d ≤ 16 ∧ b ≤ 256 := by unfold GoodG at h; omega
  have hm := mul_row (d := d) (b := b) (row := r) hg.1 hr0 hr1
  have hc := cap_bounds h
  have hmc : (d - 1) * r = r * (d - 1) := Int.mul_comm _ _
  have hf0 : 0 ≤ f := by omega
  have hfe : f + cnt ≤ (d - 1) * b := by omega
  have hpar := par_range d zone r hg.1
  induction m with
  | zero =>
    intro k t acc ht hcnt hk ha
    obtain ⟨k, rfl⟩ : ∃ q, k = q + 2 := ⟨k - 2, by omega⟩
    have hdm := divmod_of (w := d - 1) (q := r) (e := first + t) (x := f + t) (by omega) (by omega) (by omega) (by omega)
    have hzb : InZB d z b zone (f + t) := ⟨hz0, hz1, by omega, by omega⟩
    have e1 : f + t + 1 = f + cnt := by omega
    simp only [plan_Write.l1]
    rw [w64 (n := f + cnt) (by omega) (by omega), if_pos (by omega), place_in h hzb, hdm.1, hdm.2]
    simp only [Option.bind_some]
    rw [if_pos (by omega), w64 (n := f + t + 1) (by omega) (by omega), e1, if_neg (by omega), parity_yes h (zone := zone) (row := r) ⟨hz0, hz1, hr0, hr1⟩]
    simp only [Option.bind_some]
    rw [w64 (n := first + cnt) (by omega) (by omega), hi]
    simp only [stepsR, blockSteps, hdm.1, hdm.2]
    by_cases hfull : first + cnt < d - 1
    · rw [if_pos hfull, if_pos (by simp; omega), hcont k _ (by omega) (by simp; omega), if_neg (show ¬ first + t = d - 2 by omega), if_pos (show f + t = stop - 1 by omega), show first + t + 1 = first + cnt by omega]
      simp
    · rw [if_neg hfull, if_pos (by simp; omega), hcont k _ (by omega) (by simp; omega), if_pos (show first + t = d - 2 by omega)]
      simp
  | succ m ih =>
    intro k t acc ht hcnt hk ha
    obtain ⟨k, rfl⟩ : ∃ q, k = q + 1 := ⟨k - 1, by omega⟩
    have hdm := divmod_of (w := d - 1) (q := r) (e := first + t) (x := f + t) (by omega) (by omega) (by omega) (by omega)
    have hzb : InZB d z b zone (f + t) := ⟨hz0, hz1, by omega, by omega⟩
    have hrec := ih k (t + 1) (acc ++ [⟨1, slotOf d zone r (first + t), r, f + t, 0⟩]) (by omega) (by omega) (by omega) (by simp; omega)
    rw [← Int.add_assoc] at hrec
    simp only [plan_Write.l1]
    rw [w64 (n := f + cnt) (by omega) (by omega), if_pos (by omega), place_in h hzb, hdm.1, hdm.2]
    simp only [Option.bind_some]
    rw [if_pos (by omega), w64 (n := f + t + 1) (by omega) (by omega), hrec]
    conv => rhs; rw [show m + 1 + 1 = (m + 1) + 1 by rfl]
    simp only [stepsR, blockSteps, hdm.1, hdm.2]
    rw [if_neg (show ¬ first + t = d - 2 by omega), if_neg (show ¬ f + t = stop - 1 by omega)]
    simp

theorem drop_rd (L : List S86) (i : Nat) (p : S86) (l : List S86) (h : L.drop i = p :: l) : rd_T86 L i = p ∧ i < L.length ∧ L.drop (i + 1) = l := by
  have hi : i < L.length := by
    rcases Nat.lt_or_ge i L.length with h1 | h1
    · exact h1
    · rw [List.drop_eq_nil_of_le h1] at h; cases h
  rw [List.drop_eq_getElem_cons hi] at h
  injection h with h1 h2
  refine ⟨?_, hi, h2⟩
  unfold rd_T86
  rw [Int.toNat_natCast, List.getD_eq_getElem?_getD, List.getElem?_eq_getElem hi, h1]; rfl

theorem write_l0 {d z b o a : Int} (h : GoodG d z b o a) {zone : Int} (hz0 : 0 ≤ zone) (hz1 : zone ≤ z - 4) (stop : Int) (hstop : stop ≤ (d - 1) * b) (L : List S86) (hL : L.length ≤ 10000) (l : List S86) :
    ∀ (i : Nat) (f n : Int) (k : Nat) (acc : List S37), L.drop i = l → IsP (d - 1) f n l → 0 ≤ f → f + n = stop → 2 * n.toNat + 2 * l.length + 5 ≤ k → acc.length + 2 * n.toNat + 30 ≤ 20000 →
      plan_Write.l0 k zone acc (d - 1) L (L.length : Int) i d z b o a = some (acc ++ stepsR d zone stop n.toNat f, 0) := by
  have hg : 3 ≤ d ∧ d ≤ 16 ∧ b ≤ 256 := by unfold GoodG at h; omega
  have hc := cap_bounds h
  induction l with
  | nil =>
    intro i f n k acc hd hp hf0 hs hk ha
    obtain ⟨k, rfl⟩ : ∃ q, k = q + 1 := ⟨k - 1, by omega⟩
    have hi : L.length ≤ i := by
      rcases Nat.lt_or_ge i L.length with h1 | h1
      · rw [List.drop_eq_getElem_cons h1] at hd; cases hd
      · exact h1
    unfold IsP at hp
    simp only [plan_Write.l0]
    rw [if_neg (by omega), hp]
    simp [stepsR]
  | cons p l ih =>
    intro i f n k acc hd hp hf0 hs hk ha
    obtain ⟨k, rfl⟩ : ∃ q, k = q + 1 := ⟨k - 1, by omega⟩
    obtain ⟨hn, rfl, hp2⟩ := hp
    obtain ⟨hrd, hil, hdrop⟩ := drop_rd L i _ l hd
    have hcb := cntV_bounds (w := d - 1) (f := f) (n := n) (by omega) hn
    have hdm := Int.emod_add_mul_ediv f (d - 1)
    have hr0 := Int.ediv_nonneg hf0 (show 0 ≤ d - 1 by omega)
    have hr1 : f / (d - 1) < b := Int.ediv_lt_of_lt_mul (by omega) (by rw [Int.mul_comm]; omega)
    have hmr := mul_row (d := d) (b := b) (row := f / (d - 1)) hg.1 hr0 (by omega)
    have hx : wrap64 (wrap64 (f / (d - 1) * (d - 1)) + f % (d - 1)) = f := by
      rw [w64 (n := f / (d - 1) * (d - 1)) (by omega) (by omega), Int.mul_comm, w64 (by omega) (by omega)]; omega
    simp only [List.length_cons] at hk
    simp only [plan_Write.l0]
    rw [if_pos (by omega), if_pos (by omega), if_pos (by omega), hrd]
    simp only
    rw [hx]
    have hnn : (cntV (d - 1) f n).toNat + (n - cntV (d - 1) f n).toNat = n.toNat := by omega
    have hc1 : ((cntV (d - 1) f n).toNat : Int) = cntV (d - 1) f n := by omega
    have key := write_l1 h hz0 hz1 stop L (L.length : Int) (i : Int) (f / (d - 1)) (f % (d - 1)) (cntV (d - 1) f n) f (stepsR d zone stop (n - cntV (d - 1) f n).toNat (f + cntV (d - 1) f n)) (2 * (n - cntV (d - 1) f n).toNat + 2 * l.length + 5)
      (by omega) hr0 (by omega) hcb.2.2.1 hcb.2.2.2.1 (by omega) (by omega) (by rw [w64 (by omega) (by omega)])
      (2 * (n - cntV (d - 1) f n).toNat + 30)
      (by
        intro k' acc' hk' ha'
        exact ih (i + 1) (f + cntV (d - 1) f n) (n - cntV (d - 1) f n) k' acc' hdrop hp2 (by omega) (by omega) hk' (by omega))
      ((cntV (d - 1) f n).toNat - 1) k 0 acc (by omega) (by omega) (by omega) (by omega)
    rw [Int.add_zero] at key
    rw [key, show (cntV (d - 1) f n).toNat - 1 + 1 = (cntV (d - 1) f n).toNat by omega, List.append_assoc]
    conv => rhs; rw [← hnn, stepsR_add, hc1]

def InZFN (d z b zone f n : Int) : Prop := 0 ≤ zone ∧ zone ≤ z - 4 ∧ 0 ≤ f ∧ 1 ≤ n ∧ f + n ≤ (d - 1) * b
theorem write_in {d z b o a : Int} (h : GoodG d z b o a) {zone f n : Int} (hi : InZFN d z b zone f n) (k : Nat) (hk : 17000 ≤ k) :
    plan_Write.f k d z b o a zone f n = some (stepsR d zone (f + n) n.toNat f, 0) := by
  obtain ⟨k, rfl⟩ : ∃ q, k = q + 1 := ⟨k - 1, by omega⟩
  have hg := h
  unfold GoodG at hg
  have hc := cap_bounds h
  obtain ⟨h1, h2, h3, h4, h5⟩ := hi
  obtain ⟨L, e1, e2, e3⟩ := pieces_in (w := d - 1) (f := f) (n := n) (by omega) (by omega) h3 h4 (by omega) (by omega) (by omega) k (by omega)
  unfold plan_Write.f
  rw [good_yes h, zones_yes h, capacity_yes h]
  simp only [Option.bind_some, if_true]
  rw [if_neg (by omega), if_neg (by omega), if_neg (by omega), if_neg (by omega), if_neg (by omega), w64 (n := (d - 1) * b - f) (by omega) (by omega), decide_eq_false (by omega)]
  simp only [plan_Write.j0]
  rw [if_neg (by decide), w64 (n := d - 1) (by omega) (by omega), e1]
  simp only [Option.bind_some]
  have := write_l0 h h1 h2 (f + n) h5 L (by omega) L 0 f n k [] (by simp) e2 h3 rfl (by omega) (by simp; omega)
  simpa using this
theorem write_good {d z b o a : Int} (h : GoodG d z b o a) {zone f n : Int} (hf : -9223372036854775808 ≤ f ∧ f ≤ 9223372036854775807) (hi : ¬ InZFN d z b zone f n) (k : Nat) (hk : 1 ≤ k) : plan_Write.f k d z b o a zone f n = some ([], 2) := by
  obtain ⟨k, rfl⟩ : ∃ q, k = q + 1 := ⟨k - 1, by omega⟩
  have hg := h
  unfold GoodG at hg
  have hc := cap_bounds h
  unfold plan_Write.f
  rw [good_yes h, zones_yes h, capacity_yes h]
  simp only [Option.bind_some, if_true, plan_Write.j0]
  by_cases h1 : zone < 0
  · rw [if_pos h1]
  by_cases h2 : zone ≥ z - 3
  · rw [if_neg h1, if_pos h2]
  by_cases h3 : f < 0
  · rw [if_neg h1, if_neg h2, if_pos h3]
  by_cases h4 : n < 1
  · rw [if_neg h1, if_neg h2, if_neg h3, if_pos h4]
  by_cases h5 : f > (d - 1) * b
  · rw [if_neg h1, if_neg h2, if_neg h3, if_neg h4, if_pos h5]
  rw [if_neg h1, if_neg h2, if_neg h3, if_neg h4, if_neg h5, w64 (n := (d - 1) * b - f) (by omega) (by omega), decide_eq_true (by unfold InZFN at hi; omega)]
  simp
theorem write_no {d z b o a : Int} (h : ¬ GoodG d z b o a) (zone f n : Int) (k : Nat) : plan_Write.f k d z b o a zone f n = some ([], 1) := by
  unfold plan_Write.f
  rw [good_no h]; simp
theorem speaks13 (k : Nat) (hk : 17000 ≤ k) : corbellaw13_speaks.f k = some true := by
  unfold corbellaw13_speaks.f
  rw [write_in (show GoodG 3 5 4 1 1 by decide) (zone := 0) (f := 0) (n := 3) (by unfold InZFN; decide) k hk]
  decide
theorem drop_getD {α : Type} (z : α) (L : List α) (i : Nat) (p : α) (l : List α) (h : L.drop i = p :: l) : L.getD i z = p ∧ i < L.length ∧ L.drop (i + 1) = l := by
  have hi : i < L.length := by
    rcases Nat.lt_or_ge i L.length with h1 | h1
    · exact h1
    · rw [List.drop_eq_nil_of_le h1] at h; cases h
  rw [List.drop_eq_getElem_cons hi] at h
  injection h with h1 h2
  exact ⟨by rw [List.getD_eq_getElem?_getD, List.getElem?_eq_getElem hi, h1]; rfl, hi, h2⟩
theorem drop_nil {α : Type} (L : List α) (i : Nat) (hi : i ≤ L.length) (h : L.drop i = []) : i = L.length := by
  have : (L.drop i).length = 0 := by rw [h]; rfl
  rw [List.length_drop] at this; omega
theorem drop_step (L : List S37) (i : Nat) (p : S37) (l : List S37) (h : L.drop i = p :: l) : rd_T37 L i = p ∧ i < L.length ∧ L.drop (i + 1) = l := by
  have := drop_getD z37 L i p l h
  unfold rd_T37
  rw [Int.toNat_natCast]; exact this
def nn (s : S37) : Bool := decide (s.f0 ≠ 3)
theorem wn_l0 (L : List S37) (hL : L.length ≤ 40000) (l : List S37) : ∀ (k i : Nat) (acc : List S37), i ≤ L.length → L.drop i = l → l.length + 1 ≤ k → acc.length + l.length ≤ 40000 →
    corbellaw13_withoutNotes.l0 k L acc i = some (acc ++ l.filter nn) := by
  induction l with
  | nil =>
    intro k i acc hi hd hk ha
    obtain ⟨k, rfl⟩ : ∃ q, k = q + 1 := ⟨k - 1, by omega⟩
    have := drop_nil L i hi hd
    simp only [corbellaw13_withoutNotes.l0]
    rw [if_neg (by omega)]; simp
  | cons p l ih =>
    intro k i acc hi hd hk ha
    simp only [List.length_cons] at hk ha
    obtain ⟨k, rfl⟩ : ∃ q, k = q + 1 := ⟨k - 1, by omega⟩
    obtain ⟨r1, r2, r3⟩ := drop_step L i _ _ hd
    simp only [corbellaw13_withoutNotes.l0]
    rw [if_pos (by omega), if_pos (by omega), r1, w_succ (by omega)]
    by_cases h3 : p.f0 = 3
    · rw [if_pos h3, ih k (i + 1) acc (by omega) r3 (by omega) (by omega), List.filter_cons_of_neg (by simp [nn, h3])]
    · rw [if_neg h3, if_pos (by omega), ih k (i + 1) _ (by omega) r3 (by omega) (by simp; omega), List.filter_cons_of_pos (by simp [nn, h3])]
      simp
theorem wn_eq (L : List S37) (hL : L.length ≤ 40000) (k : Nat) (hk : 40001 ≤ k) : corbellaw13_withoutNotes.f k L = some (L.filter nn) := by
  unfold corbellaw13_withoutNotes.f
  have := wn_l0 L hL L k 0 [] (by omega) (by simp) (by omega) (by simp; omega)
  simpa using this
theorem block_nn (d zone s1 s2 b : Int) : (blockSteps d zone s1 b).filter nn = (blockSteps d zone s2 b).filter nn := by
  unfold blockSteps
  by_cases h : b % (d - 1) = d - 2
  · simp only [if_pos h]
  · simp only [if_neg h]
    by_cases h1 : b = s1 - 1 <;> by_cases h2 : b = s2 - 1 <;> simp [h1, h2, nn, List.filter_cons] <;> split <;> simp
theorem steps_nn (d zone s1 s2 : Int) (m : Nat) : ∀ b, (stepsR d zone s1 m b).filter nn = (stepsR d zone s2 m b).filter nn := by
  induction m with
  | zero => intro b; rfl
  | succ m ih =>
    intro b
    simp only [stepsR, List.filter_append]
    rw [block_nn d zone s1 s2 b, ih]
theorem stepsR_pos (d zone stop : Int) (m : Nat) (b : Int) (h : 1 ≤ m) : 1 ≤ (stepsR d zone stop m b).length := by
  obtain ⟨m, rfl⟩ : ∃ q, m = q + 1 := ⟨m - 1, by omega⟩
  simp only [stepsR, blockSteps, List.length_append, List.length_cons]; omega
theorem last_append (A B : List S37) (hB : 1 ≤ B.length) (hA : (A ++ B).length ≤ 40000) : rd_T37 (A ++ B) (wrap64 (((A ++ B).length : Int) - 1)) = rd_T37 B (wrap64 ((B.length : Int) - 1)) := by
  simp only [List.length_append] at hA
  rw [w64 (n := ((A ++ B).length : Int) - 1) (by simp; omega) (by simp; omega), w64 (n := (B.length : Int) - 1) (by omega) (by omega)]
  unfold rd_T37
  rw [show (((A ++ B).length : Int) - 1).toNat = A.length + (B.length - 1) by simp; omega, show ((B.length : Int) - 1).toNat = B.length - 1 by omega]
  rw [List.getD_eq_getElem?_getD, List.getD_eq_getElem?_getD, List.getElem?_append_right (by omega), Nat.add_sub_cancel_left]
theorem parts_l0 (A B P : List S37) (hB : 1 ≤ B.length) (hA : (A ++ B).length ≤ 40000) (hP : P.length ≤ 40000) (m : Nat) : ∀ (k i : Nat), P.length - i = m → i ≤ P.length → m + 1 ≤ k →
    corbellaw13_PlanParts.l0 k (A ++ B) B P P i = some true := by
  induction m with
  | zero =>
    intro k i hm hi hk
    obtain ⟨k, rfl⟩ : ∃ q, k = q + 1 := ⟨k - 1, by omega⟩
    have hl := last_append A B hB hA
    have hAB : 1 ≤ (A ++ B).length := by simp; omega
    have hAc : B.length ≤ 40000 := by simp only [List.length_append] at hA; omega
    simp only [corbellaw13_PlanParts.l0]
    rw [if_neg (by omega), if_pos (by omega), if_pos (by omega), hl, w64 (n := ((A ++ B).length : Int) - 1) (by omega) (by omega), w64 (n := (B.length : Int) - 1) (by omega) (by omega), if_pos (by omega), if_pos (by omega), if_pos (by omega), if_pos (by omega)]
    simp
  | succ m ih =>
    intro k i hm hi hk
    obtain ⟨k, rfl⟩ : ∃ q, k = q + 1 := ⟨k - 1, by omega⟩
    simp only [corbellaw13_PlanParts.l0]
    rw [if_pos (by omega), if_pos (by omega), if_pos (by omega), if_neg (by simp), w_succ (by omega)]
    exact ih k (i + 1) (by omega) (by omega) (by omega)

theorem PlanParts : corbellaw13_PlanParts.Pure := by
  intro d z b o a zone f n c hd hz hb ho ha hzone hf hn hc
  obtain ⟨K, hK⟩ : ∃ K : Nat, 100000 ≤ K := ⟨_, Nat.le_refl _⟩
  refine ⟨K, ?_⟩
  unfold corbellaw13_PlanParts.f
  rw [speaks13 K (by omega)]
  simp only [Option.bind_some, if_true]
  obtain ⟨k, rfl⟩ : ∃ q, K = q + 2 := ⟨K - 2, by omega⟩
  by_cases h : GoodG d z b o a
  · by_cases hi : InZFN d z b zone f n
    · have hcap := cap_bounds h
      have hg := h
      unfold GoodG at hg
      have hi' := hi
      unfold InZFN at hi'
      rw [write_in h hi _ (by omega)]
      simp only [Option.bind_some, if_true]
      by_cases hn2 : n < 2
      · rw [decide_eq_true hn2]
        simp [corbellaw13_PlanParts.j0]
      · rw [decide_eq_false hn2]
        have t1 : -(n - 1) < Int.tmod c (n - 1) := Int.lt_tmod_of_pos _ (by omega)
        have t2 : Int.tmod c (n - 1) < n - 1 := Int.tmod_lt_of_pos _ (by omega)
        have z0 : 0 ≤ (Int.tmod c (n - 1) + n - 1) % (n - 1) := Int.emod_nonneg _ (by omega)
        have z1 : (Int.tmod c (n - 1) + n - 1) % (n - 1) < n - 1 := Int.emod_lt_of_pos _ (by omega)
        simp only [corbellaw13_PlanParts.j0]
        rw [if_neg (by decide), w64 (n := n - 1) (by omega) (by omega), if_neg (by omega), w64 (n := Int.tmod c (n - 1) + n) (by omega) (by omega), w64 (n := Int.tmod c (n - 1) + n - 1) (by omega) (by omega), tmod_pos (a := Int.tmod c (n - 1) + n - 1) (by omega)]
        generalize (Int.tmod c (n - 1) + n - 1) % (n - 1) = q at z0 z1
        rw [w64 (n := 1 + q) (by omega) (by omega), w64 (n := f + (1 + q)) (by omega) (by omega), w64 (n := n - (1 + q)) (by omega) (by omega)]
        have i1 : InZFN d z b zone f (1 + q) := by unfold InZFN; omega
        have i2 : InZFN d z b zone (f + (1 + q)) (n - (1 + q)) := by unfold InZFN; omega
        rw [write_in h i1 _ (by omega), write_in h i2 _ (by omega)]
        simp only [Option.bind_some, if_true]
        rw [show f + (1 + q) + (n - (1 + q)) = f + n by omega]
        have hs := stepsR_add d zone (f + n) (1 + q).toNat (n - (1 + q)).toNat f
        rw [show (1 + q).toNat + (n - (1 + q)).toNat = n.toNat by omega, show (((1 + q).toNat : Nat) : Int) = 1 + q by omega] at hs
        rw [hs]
        have l1 := stepsR_length d zone (f + n) (1 + q).toNat f
        have l2 := stepsR_length d zone (f + n) (n - (1 + q)).toNat (f + (1 + q))
        have l3 := stepsR_length d zone (f + (1 + q)) (1 + q).toNat f
        have p2 := stepsR_pos d zone (f + n) (n - (1 + q)).toNat (f + (1 + q)) (by omega)
        have hnn := steps_nn d zone (f + (1 + q)) (f + n) (1 + q).toNat f
        generalize stepsR d zone (f + n) (1 + q).toNat f = A at *
        generalize stepsR d zone (f + n) (n - (1 + q)).toNat (f + (1 + q)) = B at *
        generalize stepsR d zone (f + (1 + q)) (1 + q).toNat f = C at *
        simp only [corbellaw13_PlanParts.j1]
        rw [if_neg (by decide), wn_eq _ (by simp; omega) _ (by omega)]
        simp only [Option.bind_some, List.nil_append]
        rw [if_pos (by simp; omega), if_pos (by omega), wn_eq _ (by simp; omega) _ (by omega)]
        simp only [Option.bind_some]
        rw [List.filter_append, List.filter_append, hnn, if_pos rfl, ← List.filter_append]
        have hfl := List.length_filter_le nn (A ++ B)
        exact parts_l0 A B _ p2 (by simp; omega) (by simp only [List.length_append] at hfl; omega) _ k 0 rfl (by omega) (by simp only [List.length_append] at hfl; omega)
    · rw [write_good h (wf_i64 hf) hi _ (by omega)]
      simp [corbellaw13_PlanParts.j0]
  · rw [write_no h]
    simp [corbellaw13_PlanParts.j0]
end Go.Proofs.Ytcikcikcjimcjaa.Pure
