-- written by a program of this session (a print that was turned for this claim)
import Derived.Test.YtncdfikcdchimaaDoorPCrcBitsx0
namespace Go.Proofs.YtncdfikcdchimaaDoor.PCrcBits
open Go.RowKit Go.Proofs.YtncdfikcdchimaaDoorW.PrintWords Go.Proofs.YtncdfikcdchimaaDoorW.PrintLast Go.Proofs.YtncdfikcdchimaaDoorW.PrintMore
attribute [local go_sem] max2_int min2_int max_two min_two max_three min_three max_four min_four   -- for this text's walks alone
set_option linter.unusedVariables false
set_option linter.unusedSimpArgs false

/-! ### crc_step: function 12 -/
def nibs : List Int := [0, 274646895, 549293790, 820201905, 1098587580, 1361435347, 1640403810, 1905808397, 2197175160, 2460548119, 2722870694, 2987750089, 3280807620, 3553878443, 3811616794, 4084100981]
def nibAt (i : Int) : Int := nibs.getD i.toNat 0
def half (c : Int) : Int := Go.bits .xor .u32 (c / 16) (nibAt (Go.bits .and .u32 c 15))
def Tab (w : World) : Prop := ∀ i : Nat, i < 16 → w.cell? ⟨0, i, none⟩ = some (.int .u32 (nibs.getD i 0))
theorem Tab.below {w w' : World} (h : Tab w) (k : Below w.heap.size w w') : Tab w' := by
  intro i hi
  have h0 := h 0 (by decide)
  have hB : 0 < w.heap.size := by
    rcases Nat.eq_zero_or_pos w.heap.size with z | z
    · have e : w.heap[0]? = none := Array.getElem?_eq_none (by omega)
      unfold World.cell? at h0
      rw [e] at h0
      cases h0
    · exact z
  have hk := k.block 0 hB
  have := h i hi
  unfold World.cell? at this ⊢
  rw [hk]
  exact this
def crc_step.f (a0 : Int) : Option Int := some (half (half a0))
set_option maxHeartbeats 8000000 in
set_option maxRecDepth 100000 in
theorem and15 (c : Int) : ∃ m : Nat, m < 16 ∧ Go.bits .and .u32 c 15 = (m : Int) := by
  refine ⟨(BitVec.ofInt 32 c &&& BitVec.ofInt 32 15).toNat, ?_, ?_⟩
  · rw [BitVec.toNat_and]
    exact Nat.lt_of_le_of_lt Nat.and_le_right (by decide)
  · show IntKind.u32.wrap ((BitVec.ofInt 32 c &&& BitVec.ofInt 32 15).toNat : Int) = _
    have := (BitVec.ofInt 32 c &&& BitVec.ofInt 32 15).isLt
    generalize (BitVec.ofInt 32 c &&& BitVec.ofInt 32 15).toNat = q at *
    unfold IntKind.wrap
    simp [IntKind.signed, IntKind.bits]
    omega
set_option maxHeartbeats 8000000 in
set_option maxRecDepth 100000 in
theorem crc_step.calls (a0 : Int) (r : Int) (w : World) (h : crc_step.f a0 = some r) (HT : Tab w) :
    Calls Tryd.prog 12 #[.int .u32 a0] w fun e w' => e = .returned (.int .u32 r) ∧ Drawn0 w w' := by
  obtain rfl := Option.some.inj h
  clear h
  obtain ⟨m, hm, e1⟩ := and15 a0
  have hc := HT m hm
  have hh : half a0 = Go.bits .xor .u32 (a0 / 16) (nibs.getD m 0) := by unfold half nibAt; rw [e1]; rfl
  obtain ⟨n, hn, e2⟩ := and15 (half a0)
  have hcn := HT n hn
  have hh2 : half (half a0) = Go.bits .xor .u32 (half a0 / 16) (nibs.getD n 0) := by rw [half, nibAt, e2]; rfl
  rw [hh2]
  rw [hh] at e2 ⊢
  clear hh hh2 HT
  generalize nibs.getD m 0 = u at hc e2 ⊢
  generalize nibs.getD n 0 = v at hcn ⊢
  have hmi : (m : Int) < 16 := by omega
  have hni : (n : Int) < 16 := by omega
  clear hm hn
  go_enter Tryd.func12, Tryd.ntmps12
  go_wp2
  refine wp_loop_rounds 3 ?_
  rw [rounds_succ]
  go_wp2
  rw [rounds_succ]
  go_wp2
  rw [rounds_succ]
  go_wp2
  go_ret
  exact ⟨by first | rfl | (simp; done) | (simp [*]; done), by repeat (first | exact Drawn0.refl _ | apply Drawn0.step)⟩

/-! ### crc_Sum: function 10 -/
mutual
def crc_Sum.l0 : Nat → Int → List ByteArray → Int → Int → Option (Int)
  | 0, _, _, _, _ => none
  | k + 1, x3, x7, x8, x9 => if x9 < x8 then (if 0 ≤ x9 then (if x9 < (x7.length : Int) then (crc_Sum.l1 k x3 (rdOf ByteArray.empty x7 x9) x7 x8 x9 ((rdOf ByteArray.empty x7 x9).size : Int) 0) else (none)) else (none)) else (some (Go.bits .xor .u32 4294967295 x3))
def crc_Sum.l1 : Nat → Int → ByteArray → List ByteArray → Int → Int → Int → Int → Option (Int)
  | 0, _, _, _, _, _, _, _ => none
  | k + 1, x3, x5, x7, x8, x9, x14, x15 => if x15 < x14 then (if 0 ≤ x15 then (if x15 < (x5.size : Int) then ((crc_step.f (Go.bits .xor .u32 x3 ((bt x5 x15) % 4294967296))).bind fun t102 => (crc_Sum.l1 k t102 x5 x7 x8 x9 x14 (wrap64 (x15 + 1)))) else (none)) else (none)) else (crc_Sum.l0 k x3 x7 x8 (wrap64 (x9 + 1)))
end
def crc_Sum.f (k : Nat) (l0 : List ByteArray) : Option (Int) := crc_Sum.l0 k 4294967295 l0 (l0.length : Int) 0
theorem crc_Sum.mono_l : ∀ k, (∀ y0 y1 y2 y3, LeO (crc_Sum.l0 k y0 y1 y2 y3) (crc_Sum.l0 (k + 1) y0 y1 y2 y3)) ∧ (∀ y0 y1 y2 y3 y4 y5 y6, LeO (crc_Sum.l1 k y0 y1 y2 y3 y4 y5 y6) (crc_Sum.l1 (k + 1) y0 y1 y2 y3 y4 y5 y6))
  | 0 => ⟨fun _ _ _ _ r h => by simp [crc_Sum.l0] at h, fun _ _ _ _ _ _ _ r h => by simp [crc_Sum.l1] at h⟩
  | k + 1 => by
    obtain ⟨ih0, ih1⟩ := crc_Sum.mono_l k
    refine ⟨?_, ?_⟩
    · intro y0 y1 y2 y3
      unfold crc_Sum.l0
      repeat' first
      | (with_reducible exact ih0 _ _ _ _)
      | (with_reducible exact ih1 _ _ _ _ _ _ _)
      | (with_reducible exact LeO.refl _)
      | (with_reducible exact LeO.none _)
      | (with_reducible refine LeO.ite ?_ ?_)
      | (with_reducible refine LeO.bind ?_ (fun _ => ?_))
      | exact ih0 _ _ _ _
      | exact ih1 _ _ _ _ _ _ _
      | exact LeO.none _
      | refine LeO.ite ?_ ?_
      | refine LeO.bind ?_ (fun _ => ?_)
    · intro y0 y1 y2 y3 y4 y5 y6
      unfold crc_Sum.l1
      repeat' first
      | (with_reducible exact ih0 _ _ _ _)
      | (with_reducible exact ih1 _ _ _ _ _ _ _)
      | (with_reducible exact LeO.refl _)
      | (with_reducible exact LeO.none _)
      | (with_reducible refine LeO.ite ?_ ?_)
      | (with_reducible refine LeO.bind ?_ (fun _ => ?_))
      | exact ih0 _ _ _ _
      | exact ih1 _ _ _ _ _ _ _
      | exact LeO.none _
      | refine LeO.ite ?_ ?_
      | refine LeO.bind ?_ (fun _ => ?_)
theorem crc_Sum.mono : ∀ a0 k, LeO (crc_Sum.f k a0) (crc_Sum.f (k + 1) a0) := by
  intro a0 k
  obtain ⟨ih0, ih1⟩ := crc_Sum.mono_l k
  unfold crc_Sum.f
  repeat' first
      | (with_reducible exact ih0 _ _ _ _)
      | (with_reducible exact ih1 _ _ _ _ _ _ _)
      | (with_reducible exact LeO.refl _)
      | (with_reducible exact LeO.none _)
      | (with_reducible refine LeO.ite ?_ ?_)
      | (with_reducible refine LeO.bind ?_ (fun _ => ?_))
      | exact ih0 _ _ _ _
      | exact ih1 _ _ _ _ _ _ _
      | exact LeO.none _
      | refine LeO.ite ?_ ?_
      | refine LeO.bind ?_ (fun _ => ?_)
set_option maxHeartbeats 8000000 in
set_option maxRecDepth 100000 in
theorem crc_Sum.calls (k : Nat) (A0 : Option Addr) (c0 : Nat) (l0 : List ByteArray) (r : Int) (w : World) (hr0 : Kd.C Kd.string w A0 l0.length l0) (hc0 : l0.length ≤ c0) (h : crc_Sum.f k l0 = some r) (HT : Tab w) :
    Calls Tryd.prog 10 #[.slice A0 l0.length c0] w fun e w' => e = .returned (.int .u32 r) ∧ Drawn0 w w' := by
  have HR0 := Aside0.mk hr0
  have HC0 := Aside0.mk hc0
  clear hr0 hc0
  have H : (crc_Sum.l0 k 4294967295 l0 (l0.length : Int) 0) = some r := h
  clear h
  have H' := Aside0.mk H
  clear H
  go_enter Tryd.func10, Tryd.ntmps10
  go_wp2
  go_loopg [3, 9] k (fun kq v3 v9 w' => ∃ (x3_1 : Int) (x9_1 : Int), v3 = .int .u32 x3_1 ∧ v9 = .int .i64 x9_1 ∧ Aside0 (crc_Sum.l0 kq x3_1 l0 (l0.length : Int) x9_1 = some r) ∧ Aside0 (kq ≤ k) ∧ Drawn0 w w')
  case atStart => exact ⟨(4294967295), (0), (by first | rfl | (simp; done) | (simp [*]; done)), (by first | rfl | (simp; done) | (simp [*]; done)), H', ⟨Nat.le_refl _⟩, by repeat (first | exact Drawn0.refl _ | apply Drawn0.step)⟩
  case round =>
    clear H'
    try clear c1
    obtain ⟨x3_1, x9_1, rfl, rfl, HA, HK1, ⟨m1, rfl⟩⟩ := hrel
    cases gk with
    | zero => exact absurd HA.out (by simp [crc_Sum.l0])
    | succ k1 =>
      have H := HA.out
      clear HA
      simp only [crc_Sum.l0] at H
      by_cases c2 : x9_1 < (l0.length : Int)
      · rw [if_pos c2] at H
        have c2b0 : decide (x9_1 < (l0.length : Int)) = true := decide_eq_true c2
        clear c2
        by_cases c3 : 0 ≤ x9_1
        · rw [if_pos c3] at H
          have c3b0 : decide (0 ≤ x9_1) = true := decide_eq_true c3
          clear c3
          by_cases c4 : x9_1 < (l0.length : Int)
          · rw [if_pos c4] at H
            have c4b0 : decide (x9_1 < (l0.length : Int)) = true := decide_eq_true c4
            clear c4
            have H' := Aside0.mk H
            clear H
            have p101 : 0 ≤ (x9_1 : Int) := of_decide_eq_true (by first | (with_reducible assumption) | assumption)
            have q101 : x9_1 < (l0.length : Int) := of_decide_eq_true (by first | (with_reducible assumption) | assumption)
            obtain ⟨ad101, e101, hx101_0⟩ := Kd.at_string HR0.out x9_1 p101 q101
            cases e101
            replace p101 := eq_true p101
            replace q101 := eq_true q101
            go_wp2
            go_loopg [3, 15] k1 (fun kq v3 v15 w' => ∃ (x3_2 : Int) (x15_2 : Int), v3 = .int .u32 x3_2 ∧ v15 = .int .i64 x15_2 ∧ Aside0 (crc_Sum.l1 kq x3_2 (rdOf ByteArray.empty l0 x9_1) l0 (l0.length : Int) x9_1 ((rdOf ByteArray.empty l0 x9_1).size : Int) x15_2 = some r) ∧ Aside0 (kq ≤ k1) ∧ Drawn0 w w')
            case atStart => exact ⟨(x3_1), (0), (by first | rfl | (simp; done) | (simp [*]; done)), (by first | rfl | (simp; done) | (simp [*]; done)), H', ⟨Nat.le_refl _⟩, by repeat (first | exact Drawn0.refl _ | apply Drawn0.step)⟩
            case round =>
              clear H'
              try clear c1
              try clear p1
              try clear q1
              try clear hx1
              try clear c2
              try clear c2b0
              try clear p2
              try clear c3
              try clear c3b0
              try clear c4
              try clear c4b0
              try clear hx101_0
              try clear p101
              try clear q101
              obtain ⟨x3_2, x15_2, rfl, rfl, HA, HK2, ⟨m2, rfl⟩⟩ := hrel
              cases gk with
              | zero => exact absurd HA.out (by simp [crc_Sum.l1])
              | succ k2 =>
                have H := HA.out
                clear HA
                simp only [crc_Sum.l1] at H
                by_cases c5 : x15_2 < ((rdOf ByteArray.empty l0 x9_1).size : Int)
                · rw [if_pos c5] at H
                  have c5b0 : decide (x15_2 < ((rdOf ByteArray.empty l0 x9_1).size : Int)) = true := decide_eq_true c5
                  clear c5
                  by_cases c6 : 0 ≤ x15_2
                  · rw [if_pos c6] at H
                    have c6b0 : decide (0 ≤ x15_2) = true := decide_eq_true c6
                    clear c6
                    by_cases c7 : x15_2 < ((rdOf ByteArray.empty l0 x9_1).size : Int)
                    · rw [if_pos c7] at H
                      have c7b0 : decide (x15_2 < ((rdOf ByteArray.empty l0 x9_1).size : Int)) = true := decide_eq_true c7
                      clear c7
                      replace H := Option.bind_eq_some_iff.mp H
                      obtain ⟨t102, A90, H⟩ := H
                      replace H : (crc_Sum.l1 k2 t102 (rdOf ByteArray.empty l0 x9_1) l0 (l0.length : Int) x9_1 ((rdOf ByteArray.empty l0 x9_1).size : Int) (wrap64 (x15_2 + 1))) = some r := H
                      have A9 := Aside0.mk A90
                      clear A90
                      have H' := Aside0.mk H
                      clear H
                      have p8 : 0 ≤ (x15_2 : Int) := of_decide_eq_true (by first | (with_reducible assumption) | assumption)
                      have q8 : x15_2 < ((rdOf ByteArray.empty l0 x9_1).size : Int) := of_decide_eq_true (by first | (with_reducible assumption) | assumption)
                      have hx8 := bt_at (rdOf ByteArray.empty l0 x9_1) x15_2
                      replace p8 := eq_true p8
                      replace q8 := eq_true q8
                      go_wp2_with (first | ((with_reducible refine gate_callee (f := 12) rfl ?_); refine goesL_ (some 24) rfl rfl Tryd.func12 (by kernel_rfl) rfl #[.int .u32 (Go.bits .xor .u32 x3_2 ((bt (rdOf ByteArray.empty l0 x9_1) x15_2) % 4294967296))] rfl (by (try simp only [List.map_toArray, List.map_cons, List.map_nil]); first | done | rfl | (simp only [List.length_drop, List.length_take]; rfl)) ?_; (with_reducible refine (crc_step.calls (Go.bits .xor .u32 x3_2 ((bt (rdOf ByteArray.empty l0 x9_1) x15_2) % 4294967296)) t102 _ A9.out (by first | exact HT | exact Tab.below HT (by repeat (first | (with_reducible first | exact HB.out | apply below_alloc | apply pw_below_drewN | apply below_drew1 | exact Below.refl _ _) | exact HB.out | exact Below.refl _ _)))).mono ?_); rintro e w' ⟨rfl, ⟨nd, rfl⟩⟩; refine ⟨_, rfl, ?_⟩))
                      go_roundg k2
                      case measure => have := HK1.out; have := HK2.out; omega
                      case rel => exact ⟨(t102), (wrap64 (x15_2 + 1)), (by first | rfl | (simp; done) | (simp [*]; done)), (by first | rfl | (simp; done) | (simp [*]; done)), H', ⟨by have := HK1.out; have := HK2.out; omega⟩, by repeat (first | exact Drawn0.refl _ | apply Drawn0.step)⟩
                    · rw [if_neg c7] at H
                      exact absurd H (by simp)
                  · rw [if_neg c6] at H
                    exact absurd H (by simp)
                · rw [if_neg c5] at H
                  have c5b0 : decide (x15_2 < ((rdOf ByteArray.empty l0 x9_1).size : Int)) = false := decide_eq_false c5
                  clear c5
                  have H' := Aside0.mk H
                  clear H
                  go_wp2
                  go_roundg k2
                  case measure => have := HK1.out; have := HK2.out; omega
                  case rel => exact ⟨(x3_2), (wrap64 (x9_1 + 1)), (by first | rfl | (simp; done) | (simp [*]; done)), (by first | rfl | (simp; done) | (simp [*]; done)), H', ⟨by have := HK1.out; have := HK2.out; omega⟩, by repeat (first | exact Drawn0.refl _ | apply Drawn0.step)⟩
          · rw [if_neg c4] at H
            exact absurd H (by simp)
        · rw [if_neg c3] at H
          exact absurd H (by simp)
      · rw [if_neg c2] at H
        have c2b0 : decide (x9_1 < (l0.length : Int)) = false := decide_eq_false c2
        clear c2
        obtain rfl := Option.some.inj H
        go_wp2
        all_goals go_ret
        all_goals exact ⟨by first | rfl | (simp; done) | (simp [*]; done), by repeat (first | exact Drawn0.refl _ | apply Drawn0.step)⟩

/-! ### corbellaw02_speaks: function 8 -/
def corbellaw02_speaks.f (k : Nat)  : Option (Bool) := (crc_Sum.f k (([(⟨#[49, 50, 51, 52]⟩ : ByteArray), (⟨#[]⟩ : ByteArray), (⟨#[53, 54, 55, 56, 57]⟩ : ByteArray)] : List ByteArray))).bind fun t106 => (some (t106 == 3808858755))
theorem corbellaw02_speaks.mono : ∀ k, LeO (corbellaw02_speaks.f k ) (corbellaw02_speaks.f (k + 1) ) := by
  intro  k
  unfold corbellaw02_speaks.f
  repeat' first
      | (with_reducible exact crc_Sum.mono _ _)
      | (with_reducible exact LeO.refl _)
      | (with_reducible exact LeO.none _)
      | (with_reducible refine LeO.ite ?_ ?_)
      | (with_reducible refine LeO.bind ?_ (fun _ => ?_))
      | exact crc_Sum.mono _ _
      | exact LeO.none _
      | refine LeO.ite ?_ ?_
      | refine LeO.bind ?_ (fun _ => ?_)
set_option maxHeartbeats 8000000 in
set_option maxRecDepth 100000 in
theorem corbellaw02_speaks.calls (k : Nat)  (r : Bool) (w : World) (h : corbellaw02_speaks.f k  = some r) (HT : Tab w) :
    Calls Tryd.prog 8 #[] w fun e w' => e = .returned (.bool r) ∧ Below w.heap.size w w' := by
  have HB := Aside0.mk (Below.refl w.heap.size w)
  have H : ((crc_Sum.f k (([(⟨#[49, 50, 51, 52]⟩ : ByteArray), (⟨#[]⟩ : ByteArray), (⟨#[53, 54, 55, 56, 57]⟩ : ByteArray)] : List ByteArray))).bind fun t106 => (some (t106 == 3808858755))) = some r := h
  clear h
  obtain ⟨y103, hy103⟩ : ∃ y_ : List ByteArray, y_ = (([(⟨#[49, 50, 51, 52]⟩ : ByteArray), (⟨#[]⟩ : ByteArray), (⟨#[53, 54, 55, 56, 57]⟩ : ByteArray)] : List ByteArray)) := ⟨_, rfl⟩
  replace H : ((crc_Sum.f k y103).bind fun t106 => (some (t106 == 3808858755))) = some r := by first | (rw [hy103]; with_reducible exact H) | (have H2_ := (Option.bind_some _ _).symm.trans H; rw [hy103]; with_reducible exact H2_) | (have H2_ := (Option.bind_some _ _).symm.trans H; with_reducible exact H2_) | with_reducible exact H | (rw [hy103]; exact H) | exact H
  have Ny103 := Aside0.mk hy103
  clear hy103
  replace H := Option.bind_eq_some_iff.mp H
  obtain ⟨t106, A10, H⟩ := H
  replace H : (some (t106 == 3808858755)) = some r := H
  have A1 := Aside0.mk A10
  clear A10
  obtain rfl := Option.some.inj H
  go_enter Tryd.func8, Tryd.ntmps8
  go_wp2_with (first | ((with_reducible refine gate_dst (N := 1) rfl ?_); refine Kd.R_lit Kd.string _ 9 ?hg (N := 1) ?hd (xs := ([(⟨#[49, 50, 51, 52]⟩ : ByteArray), (⟨#[]⟩ : ByteArray), (⟨#[53, 54, 55, 56, 57]⟩ : ByteArray)] : List ByteArray)) (inner := [.string (⟨#[49, 50, 51, 52]⟩ : ByteArray), .string (⟨#[]⟩ : ByteArray), .string (⟨#[53, 54, 55, 56, 57]⟩ : ByteArray)]) (ok := fun _ => True) (okp := fun _ => True) ?hr ?hp (fun _ hk => hk) trivial (Below.refl _ _) (Nat.le_refl _) (by simp) ?_; (case hd => rfl); (case hg => rfl); (case hr => first | (go_simp; done) | (go_simp; rfl)); (case hp => exact (Reps.one (show Kd.M Kd.string _ _ _ (⟨#[49, 50, 51, 52]⟩ : ByteArray) [.string (⟨#[49, 50, 51, 52]⟩ : ByteArray)] from rfl) (Reps.one (show Kd.M Kd.string _ _ _ (⟨#[]⟩ : ByteArray) [.string (⟨#[]⟩ : ByteArray)] from rfl) (Reps.one (show Kd.M Kd.string _ _ _ (⟨#[53, 54, 55, 56, 57]⟩ : ByteArray) [.string (⟨#[53, 54, 55, 56, 57]⟩ : ByteArray)] from rfl) (Reps.none _ _))))); intro v104 w2 ho3 hb hg_ hnew_; clear hg_ hnew_; (first | rw [← Ny103.out] at ho3 | (simp only [Int.reduceToNat] at ho3; rw [← Ny103.out] at ho3)); have n0_ := Aside0.mk (Kd.R_lower ho3 (below_size (by repeat (first | (with_reducible first | exact HB.out | apply below_alloc | apply pw_below_drewN | apply below_drew1) | exact HB.out)))); have n1_ := Aside0.mk (below_step (by repeat (first | (with_reducible first | exact HB.out | apply below_alloc | apply pw_below_drewN | apply below_drew1) | exact HB.out)) hb); clear HB; have HO105 := n0_; have HB := n1_; clear n0_ n1_; clear hb ho3; obtain ⟨Ao4, co4, eo4⟩ := Kd.R_slice HO105.out; subst eo4) | ((with_reducible refine gate_callee (f := 10) rfl ?_); refine goesL_ (some 2) rfl rfl Tryd.func10 (by kernel_rfl) rfl #[.slice Ao4 y103.length co4] rfl (by (try simp only [List.map_toArray, List.map_cons, List.map_nil]); first | done | rfl | (simp only [List.length_drop, List.length_take]; rfl)) ?_; (with_reducible refine (crc_Sum.calls k _ _ y103 t106 _ ?side1 ?side2 A1.out (by first | exact HT | exact Tab.below HT (by repeat (first | (with_reducible first | exact HB.out | apply below_alloc | apply pw_below_drewN | apply below_drew1 | exact Below.refl _ _) | exact HB.out | exact Below.refl _ _)))).mono ?_); (case side1 => repeat (first | exact (Kd.R_reads' HO105.out).2.2 | (with_reducible refine Kd.C_alloc ?_ _) | (with_reducible refine Kd.C_drewN ?_ _) | (with_reducible refine Kd.C_drew ?_))); (case side2 => exact (Kd.R_reads' HO105.out).2.1); rintro e w' ⟨rfl, ⟨nd, rfl⟩⟩; refine ⟨_, rfl, ?_⟩))
  all_goals go_ret
  all_goals exact ⟨by first | rfl | (simp [errW_none, errW_some] <;> rfl) | (simp [*, errW_none, errW_some] <;> rfl), by repeat (first | (with_reducible first | exact HB.out | apply below_alloc | apply pw_below_drewN | apply below_drew1) | exact HB.out)⟩

/-! ### crc_Turn: function 11 -/
mutual
def crc_Turn.j0 : Nat → Int → Int → Bool → Option (Int)
  | 0, _, _, _ => none
  | k + 1, x0, x1, x11 => if x11 = true then (some 0) else ((crc_step.f ((x1) % 4294967296)).bind fun t107 => (crc_Turn.l0 k t107 x0 0))
def crc_Turn.l0 : Nat → Int → Int → Int → Option (Int)
  | 0, _, _, _ => none
  | k + 1, x5, x15, x16 => if x16 < x15 then ((crc_step.f x5).bind fun t108 => (crc_Turn.l0 k t108 x15 (wrap64 (x16 + 1)))) else (some x5)
end
def crc_Turn.f (k : Nat) (a0 : Int) (a1 : Int) : Option (Int) := if a0 < 0 then (crc_Turn.j0 k a0 a1 true) else (crc_Turn.j0 k a0 a1 (decide (a0 > 65536)))
theorem crc_Turn.mono_l : ∀ k, (∀ y0 y1 y2, LeO (crc_Turn.j0 k y0 y1 y2) (crc_Turn.j0 (k + 1) y0 y1 y2)) ∧ (∀ y0 y1 y2, LeO (crc_Turn.l0 k y0 y1 y2) (crc_Turn.l0 (k + 1) y0 y1 y2))
  | 0 => ⟨fun _ _ _ r h => by simp [crc_Turn.j0] at h, fun _ _ _ r h => by simp [crc_Turn.l0] at h⟩
  | k + 1 => by
    obtain ⟨ih0, ih1⟩ := crc_Turn.mono_l k
    refine ⟨?_, ?_⟩
    · intro y0 y1 y2
      unfold crc_Turn.j0
      repeat' first
      | (with_reducible exact ih0 _ _ _)
      | (with_reducible exact ih1 _ _ _)
      | (with_reducible exact LeO.refl _)
      | (with_reducible exact LeO.none _)
      | (with_reducible refine LeO.ite ?_ ?_)
      | (with_reducible refine LeO.bind ?_ (fun _ => ?_))
      | exact ih0 _ _ _
      | exact ih1 _ _ _
      | exact LeO.none _
      | refine LeO.ite ?_ ?_
      | refine LeO.bind ?_ (fun _ => ?_)
    · intro y0 y1 y2
      unfold crc_Turn.l0
      repeat' first
      | (with_reducible exact ih0 _ _ _)
      | (with_reducible exact ih1 _ _ _)
      | (with_reducible exact LeO.refl _)
      | (with_reducible exact LeO.none _)
      | (with_reducible refine LeO.ite ?_ ?_)
      | (with_reducible refine LeO.bind ?_ (fun _ => ?_))
      | exact ih0 _ _ _
      | exact ih1 _ _ _
      | exact LeO.none _
      | refine LeO.ite ?_ ?_
      | refine LeO.bind ?_ (fun _ => ?_)
theorem crc_Turn.mono : ∀ a0 a1 k, LeO (crc_Turn.f k a0 a1) (crc_Turn.f (k + 1) a0 a1) := by
  intro a0 a1 k
  obtain ⟨ih0, ih1⟩ := crc_Turn.mono_l k
  unfold crc_Turn.f
  repeat' first
      | (with_reducible exact ih0 _ _ _)
      | (with_reducible exact ih1 _ _ _)
      | (with_reducible exact LeO.refl _)
      | (with_reducible exact LeO.none _)
      | (with_reducible refine LeO.ite ?_ ?_)
      | (with_reducible refine LeO.bind ?_ (fun _ => ?_))
      | exact ih0 _ _ _
      | exact ih1 _ _ _
      | exact LeO.none _
      | refine LeO.ite ?_ ?_
      | refine LeO.bind ?_ (fun _ => ?_)
set_option maxHeartbeats 8000000 in
set_option maxRecDepth 100000 in
theorem crc_Turn.calls (k : Nat) (a0 : Int) (a1 : Int) (r : Int) (w : World) (h : crc_Turn.f k a0 a1 = some r) (HT : Tab w) :
    Calls Tryd.prog 11 #[.int .i64 a0, .int .u8 a1] w fun e w' => e = .returned (.int .u32 r) ∧ Drawn0 w w' := by
  have H : (if a0 < 0 then (crc_Turn.j0 k a0 a1 true) else (crc_Turn.j0 k a0 a1 (decide (a0 > 65536)))) = some r := h
  clear h
  have HC3 := Aside0.mk H
  clear H
  go_enter Tryd.func11, Tryd.ntmps11
  go_upto_region 1 with (fail)
  go_cut [11] (fun v11 wc => ∃ (kq : Nat) (x11_2 : Bool), v11 = .bool x11_2 ∧ Aside0 (crc_Turn.j0 kq a0 a1 x11_2 = some r) ∧ Aside0 (kq ≤ k) ∧ Drawn0 w wc)
  case first =>
    have H := HC3.out
    clear HC3
    by_cases c4 : a0 < 0
    · rw [if_pos c4] at H
      have c4b0 : decide (a0 < 0) = true := decide_eq_true c4
      clear c4
      (first | rw [c4b0] | (simp only [i64_w, i32_w]; rw [c4b0]) | skip)
      have H' := Aside0.mk H
      clear H
      go_wp2
      go_meet
      case rel => exact ⟨_, (true), (by first | rfl | (simp; done) | (simp [*]; done)), H', ⟨by first | omega | exact Nat.le_refl _⟩, by repeat (first | exact Drawn0.refl _ | apply Drawn0.step)⟩
    · rw [if_neg c4] at H
      have c4b0 : decide (a0 < 0) = false := decide_eq_false c4
      clear c4
      (first | rw [c4b0] | (simp only [i64_w, i32_w]; rw [c4b0]) | skip)
      have H' := Aside0.mk H
      clear H
      go_wp2
      go_meet
      case rel => exact ⟨_, (decide (a0 > 65536)), (by first | rfl | (simp; done) | (simp [*]; done)), H', ⟨by first | omega | exact Nat.le_refl _⟩, by repeat (first | exact Drawn0.refl _ | apply Drawn0.step)⟩
  case rest =>
    clear HC3
    try clear c1
    try clear p2
    try clear c4
    try clear c4b0
    obtain ⟨kq, x11_2, rfl, HA, HJ2, ⟨mc2, rfl⟩⟩ := hcut
    cases kq with
    | zero => exact absurd HA.out (by simp [crc_Turn.j0])
    | succ kj2 =>
      have H := HA.out
      clear HA
      simp only [crc_Turn.j0] at H
      by_cases c5 : x11_2 = true
      · subst c5
        have H1 : (some 0) = some r := by rw [if_pos rfl] at H; exact H
        clear H
        have H := H1
        clear H1
        obtain rfl := Option.some.inj H
        go_wp2
        all_goals go_ret
        all_goals exact ⟨by first | rfl | (simp; done) | (simp [*]; done), by repeat (first | exact Drawn0.refl _ | apply Drawn0.step)⟩
      · replace c5 := Bool.eq_false_iff.mpr c5
        subst c5
        have H1 : ((crc_step.f ((a1) % 4294967296)).bind fun t107 => (crc_Turn.l0 kj2 t107 a0 0)) = some r := by rw [if_neg (show ¬ (false = true) by decide)] at H; exact H
        clear H
        have H := H1
        clear H1
        replace H := Option.bind_eq_some_iff.mp H
        obtain ⟨t107, A60, H⟩ := H
        replace H : (crc_Turn.l0 kj2 t107 a0 0) = some r := H
        have A6 := Aside0.mk A60
        clear A60
        have H' := Aside0.mk H
        clear H
        go_wp2_with (first | ((with_reducible refine gate_callee (f := 12) rfl ?_); refine goesL_ (some 14) rfl rfl Tryd.func12 (by kernel_rfl) rfl #[.int .u32 ((a1) % 4294967296)] rfl (by (try simp only [List.map_toArray, List.map_cons, List.map_nil]); first | done | rfl | (simp only [List.length_drop, List.length_take]; rfl)) ?_; (with_reducible refine (crc_step.calls ((a1) % 4294967296) t107 _ A6.out (by first | exact HT | exact Tab.below HT (by repeat (first | (with_reducible first | exact HB.out | apply below_alloc | apply pw_below_drewN | apply below_drew1 | exact Below.refl _ _) | exact HB.out | exact Below.refl _ _)))).mono ?_); rintro e w' ⟨rfl, ⟨nd, rfl⟩⟩; refine ⟨_, rfl, ?_⟩))
        go_loopg [5, 16] kj2 (fun kq v5 v16 w' => ∃ (x5_2 : Int) (x16_2 : Int), v5 = .int .u32 x5_2 ∧ v16 = .int .i64 x16_2 ∧ Aside0 (crc_Turn.l0 kq x5_2 a0 x16_2 = some r) ∧ Aside0 (kq ≤ kj2) ∧ Drawn0 w w')
        case atStart => exact ⟨(t107), (0), (by first | rfl | (simp; done) | (simp [*]; done)), (by first | rfl | (simp; done) | (simp [*]; done)), H', ⟨Nat.le_refl _⟩, by repeat (first | exact Drawn0.refl _ | apply Drawn0.step)⟩
        case round =>
          clear H'
          try clear c1
          try clear c2
          try clear p2
          try clear c4
          try clear c4b0
          try clear c5
          try clear p2
          obtain ⟨x5_2, x16_2, rfl, rfl, HA, HK2, ⟨m2, rfl⟩⟩ := hrel
          cases gk with
          | zero => exact absurd HA.out (by simp [crc_Turn.l0])
          | succ k2 =>
            have H := HA.out
            clear HA
            simp only [crc_Turn.l0] at H
            by_cases c7 : x16_2 < a0
            · rw [if_pos c7] at H
              have c7b0 : decide (x16_2 < a0) = true := decide_eq_true c7
              clear c7
              replace H := Option.bind_eq_some_iff.mp H
              obtain ⟨t108, A80, H⟩ := H
              replace H : (crc_Turn.l0 k2 t108 a0 (wrap64 (x16_2 + 1))) = some r := H
              have A8 := Aside0.mk A80
              clear A80
              have H' := Aside0.mk H
              clear H
              go_wp2_with (first | ((with_reducible refine gate_callee (f := 12) rfl ?_); refine goesL_ (some 19) rfl rfl Tryd.func12 (by kernel_rfl) rfl #[.int .u32 x5_2] rfl (by (try simp only [List.map_toArray, List.map_cons, List.map_nil]); first | done | rfl | (simp only [List.length_drop, List.length_take]; rfl)) ?_; (with_reducible refine (crc_step.calls x5_2 t108 _ A8.out (by first | exact HT | exact Tab.below HT (by repeat (first | (with_reducible first | exact HB.out | apply below_alloc | apply pw_below_drewN | apply below_drew1 | exact Below.refl _ _) | exact HB.out | exact Below.refl _ _)))).mono ?_); rintro e w' ⟨rfl, ⟨nd, rfl⟩⟩; refine ⟨_, rfl, ?_⟩))
              go_roundg k2
              case measure => have := HJ2.out; have := HK2.out; omega
              case rel => exact ⟨(t108), (wrap64 (x16_2 + 1)), (by first | rfl | (simp; done) | (simp [*]; done)), (by first | rfl | (simp; done) | (simp [*]; done)), H', ⟨by have := HJ2.out; have := HK2.out; omega⟩, by repeat (first | exact Drawn0.refl _ | apply Drawn0.step)⟩
            · rw [if_neg c7] at H
              have c7b0 : decide (x16_2 < a0) = false := decide_eq_false c7
              clear c7
              obtain rfl := Option.some.inj H
              go_wp2
              all_goals go_ret
              all_goals exact ⟨by first | rfl | (simp; done) | (simp [*]; done), by repeat (first | exact Drawn0.refl _ | apply Drawn0.step)⟩

/-! ### corbellaw02_CrcBits: function 7 -/
def corbellaw02_CrcBits.f (k : Nat) (a0 : Int) (a1 : Int) (a2 : Int) : Option (Bool) := (corbellaw02_speaks.f k).bind fun t109 => (if t109 = true then (if 0 ≤ (Int.tmod (Go.bits .and .i64 a1 31) 8) then ((crc_Turn.f k (wrap64 ((Go.bits .and .i64 a0 4095) + (wrap64 (Int.tdiv (Go.bits .and .i64 a1 31) 8)))) (shl .u8 1 (Int.tmod (Go.bits .and .i64 a1 31) 8))).bind fun t110 => (if 0 ≤ (Int.tmod (Go.bits .and .i64 a2 31) 8) then ((crc_Turn.f k (wrap64 ((Go.bits .and .i64 a0 4095) + (wrap64 (Int.tdiv (Go.bits .and .i64 a2 31) 8)))) (shl .u8 1 (Int.tmod (Go.bits .and .i64 a2 31) 8))).bind fun t111 => (if t110 = 0 then (some false) else (some ((t110 == t111) == ((Go.bits .and .i64 a1 31) == (Go.bits .and .i64 a2 31)))))) else (none))) else (none)) else (some false))
theorem corbellaw02_CrcBits.mono : ∀ a0 a1 a2 k, LeO (corbellaw02_CrcBits.f k a0 a1 a2) (corbellaw02_CrcBits.f (k + 1) a0 a1 a2) := by
  intro a0 a1 a2 k
  unfold corbellaw02_CrcBits.f
  repeat' first
      | (with_reducible exact corbellaw02_speaks.mono _)
      | (with_reducible exact crc_Turn.mono _ _ _)
      | (with_reducible exact LeO.refl _)
      | (with_reducible exact LeO.none _)
      | (with_reducible refine LeO.ite ?_ ?_)
      | (with_reducible refine LeO.bind ?_ (fun _ => ?_))
      | exact corbellaw02_speaks.mono _
      | exact crc_Turn.mono _ _ _
      | exact LeO.none _
      | refine LeO.ite ?_ ?_
      | refine LeO.bind ?_ (fun _ => ?_)
set_option maxHeartbeats 8000000 in
set_option maxRecDepth 100000 in
theorem corbellaw02_CrcBits.calls (k : Nat) (a0 : Int) (a1 : Int) (a2 : Int) (r : Bool) (w : World) (h : corbellaw02_CrcBits.f k a0 a1 a2 = some r) (HT : Tab w) :
    Calls Tryd.prog 7 #[.int .i64 a0, .int .i64 a1, .int .i64 a2] w fun e w' => e = .returned (.bool r) ∧ Below w.heap.size w w' := by
  have HB := Aside0.mk (Below.refl w.heap.size w)
  have H : ((corbellaw02_speaks.f k).bind fun t109 => (if t109 = true then (if 0 ≤ (Int.tmod (Go.bits .and .i64 a1 31) 8) then ((crc_Turn.f k (wrap64 ((Go.bits .and .i64 a0 4095) + (wrap64 (Int.tdiv (Go.bits .and .i64 a1 31) 8)))) (shl .u8 1 (Int.tmod (Go.bits .and .i64 a1 31) 8))).bind fun t110 => (if 0 ≤ (Int.tmod (Go.bits .and .i64 a2 31) 8) then ((crc_Turn.f k (wrap64 ((Go.bits .and .i64 a0 4095) + (wrap64 (Int.tdiv (Go.bits .and .i64 a2 31) 8)))) (shl .u8 1 (Int.tmod (Go.bits .and .i64 a2 31) 8))).bind fun t111 => (if t110 = 0 then (some false) else (some ((t110 == t111) == ((Go.bits .and .i64 a1 31) == (Go.bits .and .i64 a2 31)))))) else (none))) else (none)) else (some false))) = some r := h
  clear h
  replace H := Option.bind_eq_some_iff.mp H
  obtain ⟨t109, A40, H⟩ := H
  replace H : (if t109 = true then (if 0 ≤ (Int.tmod (Go.bits .and .i64 a1 31) 8) then ((crc_Turn.f k (wrap64 ((Go.bits .and .i64 a0 4095) + (wrap64 (Int.tdiv (Go.bits .and .i64 a1 31) 8)))) (shl .u8 1 (Int.tmod (Go.bits .and .i64 a1 31) 8))).bind fun t110 => (if 0 ≤ (Int.tmod (Go.bits .and .i64 a2 31) 8) then ((crc_Turn.f k (wrap64 ((Go.bits .and .i64 a0 4095) + (wrap64 (Int.tdiv (Go.bits .and .i64 a2 31) 8)))) (shl .u8 1 (Int.tmod (Go.bits .and .i64 a2 31) 8))).bind fun t111 => (if t110 = 0 then (some false) else (some ((t110 == t111) == ((Go.bits .and .i64 a1 31) == (Go.bits .and .i64 a2 31)))))) else (none))) else (none)) else (some false)) = some r := H
  have A4 := Aside0.mk A40
  clear A40
  by_cases c5 : t109 = true
  · subst c5
    have H1 : (if 0 ≤ (Int.tmod (Go.bits .and .i64 a1 31) 8) then ((crc_Turn.f k (wrap64 ((Go.bits .and .i64 a0 4095) + (wrap64 (Int.tdiv (Go.bits .and .i64 a1 31) 8)))) (shl .u8 1 (Int.tmod (Go.bits .and .i64 a1 31) 8))).bind fun t110 => (if 0 ≤ (Int.tmod (Go.bits .and .i64 a2 31) 8) then ((crc_Turn.f k (wrap64 ((Go.bits .and .i64 a0 4095) + (wrap64 (Int.tdiv (Go.bits .and .i64 a2 31) 8)))) (shl .u8 1 (Int.tmod (Go.bits .and .i64 a2 31) 8))).bind fun t111 => (if t110 = 0 then (some false) else (some ((t110 == t111) == ((Go.bits .and .i64 a1 31) == (Go.bits .and .i64 a2 31)))))) else (none))) else (none)) = some r := by rw [if_pos rfl] at H; exact H
    clear H
    have H := H1
    clear H1
    obtain ⟨ji6, hji6⟩ : ∃ j_ : Int, (Int.tmod (Go.bits .and .i64 a1 31) 8) = j_ := ⟨_, rfl⟩
    replace H : (if 0 ≤ (ji6) then ((crc_Turn.f k (wrap64 ((Go.bits .and .i64 a0 4095) + (wrap64 (Int.tdiv (Go.bits .and .i64 a1 31) 8)))) (shl .u8 1 (ji6))).bind fun t110 => (if 0 ≤ (Int.tmod (Go.bits .and .i64 a2 31) 8) then ((crc_Turn.f k (wrap64 ((Go.bits .and .i64 a0 4095) + (wrap64 (Int.tdiv (Go.bits .and .i64 a2 31) 8)))) (shl .u8 1 (Int.tmod (Go.bits .and .i64 a2 31) 8))).bind fun t111 => (if t110 = 0 then (some false) else (some ((t110 == t111) == ((Go.bits .and .i64 a1 31) == (Go.bits .and .i64 a2 31)))))) else (none))) else (none)) = some r := by first | (rw [hji6] at H; exact H) | (simp only [hji6] at H ⊢; exact H)
    (try rw [hji6] at A4)
    by_cases c7 : 0 ≤ (ji6)
    · rw [if_pos c7] at H
      have c7b0 := eq_true c7
      have c7b1 : decide (0 ≤ (ji6)) = true := decide_eq_true c7
      clear c7
      obtain ⟨ji8, hji8⟩ : ∃ j_ : Int, (shl .u8 1 (ji6)) = j_ := ⟨_, rfl⟩
      replace H : ((crc_Turn.f k (wrap64 ((Go.bits .and .i64 a0 4095) + (wrap64 (Int.tdiv (Go.bits .and .i64 a1 31) 8)))) (ji8)).bind fun t110 => (if 0 ≤ (Int.tmod (Go.bits .and .i64 a2 31) 8) then ((crc_Turn.f k (wrap64 ((Go.bits .and .i64 a0 4095) + (wrap64 (Int.tdiv (Go.bits .and .i64 a2 31) 8)))) (shl .u8 1 (Int.tmod (Go.bits .and .i64 a2 31) 8))).bind fun t111 => (if t110 = 0 then (some false) else (some ((t110 == t111) == ((Go.bits .and .i64 a1 31) == (Go.bits .and .i64 a2 31)))))) else (none))) = some r := by first | (rw [hji8] at H; exact H) | (simp only [hji8] at H ⊢; exact H)
      (try rw [hji8] at A4)
      have hji8_ : (IntKind.u8.wrap (1 * 2 ^ min (ji6).toNat 8)) = ji8 := hji8
      have hji8z : (ji6) ≤ 8 → (IntKind.u8.wrap (1 * 2 ^ (ji6).toNat)) = ji8 := shl_small hji8
      have hji8u : (IntKind.u8.wrap (2 ^ min (ji6).toNat 8)) = ji8 := by have h_ := hji8_; rw [Int.one_mul] at h_; exact h_
      have hji8v : (ji6) ≤ 8 → (IntKind.u8.wrap (2 ^ (ji6).toNat)) = ji8 := fun hle_ => by have h_ := hji8z hle_; rw [Int.one_mul] at h_; exact h_
      replace H := Option.bind_eq_some_iff.mp H
      obtain ⟨t110, A90, H⟩ := H
      replace H : (if 0 ≤ (Int.tmod (Go.bits .and .i64 a2 31) 8) then ((crc_Turn.f k (wrap64 ((Go.bits .and .i64 a0 4095) + (wrap64 (Int.tdiv (Go.bits .and .i64 a2 31) 8)))) (shl .u8 1 (Int.tmod (Go.bits .and .i64 a2 31) 8))).bind fun t111 => (if t110 = 0 then (some false) else (some ((t110 == t111) == ((Go.bits .and .i64 a1 31) == (Go.bits .and .i64 a2 31)))))) else (none)) = some r := H
      have A9 := Aside0.mk A90
      clear A90
      obtain ⟨ji10, hji10⟩ : ∃ j_ : Int, (Int.tmod (Go.bits .and .i64 a2 31) 8) = j_ := ⟨_, rfl⟩
      replace H : (if 0 ≤ (ji10) then ((crc_Turn.f k (wrap64 ((Go.bits .and .i64 a0 4095) + (wrap64 (Int.tdiv (Go.bits .and .i64 a2 31) 8)))) (shl .u8 1 (ji10))).bind fun t111 => (if t110 = 0 then (some false) else (some ((t110 == t111) == ((Go.bits .and .i64 a1 31) == (Go.bits .and .i64 a2 31)))))) else (none)) = some r := by first | (rw [hji10] at H; exact H) | (simp only [hji10] at H ⊢; exact H)
      (try rw [hji10] at A4)
      (try rw [hji10] at A9)
      by_cases c11 : 0 ≤ (ji10)
      · rw [if_pos c11] at H
        have c11b0 := eq_true c11
        have c11b1 : decide (0 ≤ (ji10)) = true := decide_eq_true c11
        clear c11
        obtain ⟨ji12, hji12⟩ : ∃ j_ : Int, (shl .u8 1 (ji10)) = j_ := ⟨_, rfl⟩
        replace H : ((crc_Turn.f k (wrap64 ((Go.bits .and .i64 a0 4095) + (wrap64 (Int.tdiv (Go.bits .and .i64 a2 31) 8)))) (ji12)).bind fun t111 => (if t110 = 0 then (some false) else (some ((t110 == t111) == ((Go.bits .and .i64 a1 31) == (Go.bits .and .i64 a2 31)))))) = some r := by first | (rw [hji12] at H; exact H) | (simp only [hji12] at H ⊢; exact H)
        (try rw [hji12] at A4)
        (try rw [hji12] at A9)
        have hji12_ : (IntKind.u8.wrap (1 * 2 ^ min (ji10).toNat 8)) = ji12 := hji12
        have hji12z : (ji10) ≤ 8 → (IntKind.u8.wrap (1 * 2 ^ (ji10).toNat)) = ji12 := shl_small hji12
        have hji12u : (IntKind.u8.wrap (2 ^ min (ji10).toNat 8)) = ji12 := by have h_ := hji12_; rw [Int.one_mul] at h_; exact h_
        have hji12v : (ji10) ≤ 8 → (IntKind.u8.wrap (2 ^ (ji10).toNat)) = ji12 := fun hle_ => by have h_ := hji12z hle_; rw [Int.one_mul] at h_; exact h_
        replace H := Option.bind_eq_some_iff.mp H
        obtain ⟨t111, A130, H⟩ := H
        replace H : (if t110 = 0 then (some false) else (some ((t110 == t111) == ((Go.bits .and .i64 a1 31) == (Go.bits .and .i64 a2 31))))) = some r := H
        have A13 := Aside0.mk A130
        clear A130
        by_cases c14 : t110 = 0
        · rw [if_pos c14] at H
          have c14b0 : (t110 == 0) = true := beq_iff_eq.mpr c14
          have c14b1 : (t110 != 0) = false := bne_eq_false_iff_eq.mpr c14
          clear c14
          obtain rfl := Option.some.inj H
          go_enter Tryd.func7, Tryd.ntmps7
          go_wp2_with (first | ((with_reducible refine gate_callee (f := 8) rfl ?_); refine goesL_ (some 9) rfl rfl Tryd.func8 (by kernel_rfl) rfl #[] rfl (by (try simp only [List.map_toArray, List.map_cons, List.map_nil]); first | done | rfl | (simp only [List.length_drop, List.length_take]; rfl)) ?_; (with_reducible refine (corbellaw02_speaks.calls k  true _ A4.out (by first | exact HT | exact Tab.below HT (by repeat (first | (with_reducible first | exact HB.out | apply below_alloc | apply pw_below_drewN | apply below_drew1 | exact Below.refl _ _) | exact HB.out | exact Below.refl _ _)))).mono ?_); rintro e w15 ⟨rfl, hb⟩; refine ⟨_, rfl, ?_⟩; have n0_ := Aside0.mk (below_step (by repeat (first | (with_reducible first | exact HB.out | apply below_alloc | apply pw_below_drewN | apply below_drew1) | exact HB.out)) hb); clear HB; have HB := n0_; clear n0_; (try clear hb); (try clear hb2); (try clear hk); (try clear hi)) | ((with_reducible refine gate_callee (f := 11) rfl ?_); refine goesL_ (some 24) rfl rfl Tryd.func11 (by kernel_rfl) rfl #[.int .i64 (wrap64 ((Go.bits .and .i64 a0 4095) + (wrap64 (Int.tdiv (Go.bits .and .i64 a1 31) 8)))), .int .u8 ji8] rfl (by (try simp only [List.map_toArray, List.map_cons, List.map_nil]); first | done | (simp only [hji8]; rfl) | rfl | (simp only [List.length_drop, List.length_take]; rfl)) ?_; (with_reducible refine (crc_Turn.calls k (wrap64 ((Go.bits .and .i64 a0 4095) + (wrap64 (Int.tdiv (Go.bits .and .i64 a1 31) 8)))) ji8 t110 _ A9.out (by first | exact HT | exact Tab.below HT (by repeat (first | (with_reducible first | exact HB.out | apply below_alloc | apply pw_below_drewN | apply below_drew1 | exact Below.refl _ _) | exact HB.out | exact Below.refl _ _)))).mono ?_); rintro e w' ⟨rfl, ⟨nd, rfl⟩⟩; refine ⟨_, rfl, ?_⟩) | ((with_reducible refine gate_callee (f := 11) rfl ?_); refine goesL_ (some 32) rfl rfl Tryd.func11 (by kernel_rfl) rfl #[.int .i64 (wrap64 ((Go.bits .and .i64 a0 4095) + (wrap64 (Int.tdiv (Go.bits .and .i64 a2 31) 8)))), .int .u8 ji12] rfl (by (try simp only [List.map_toArray, List.map_cons, List.map_nil]); first | done | (simp only [hji12]; rfl) | rfl | (simp only [List.length_drop, List.length_take]; rfl)) ?_; (with_reducible refine (crc_Turn.calls k (wrap64 ((Go.bits .and .i64 a0 4095) + (wrap64 (Int.tdiv (Go.bits .and .i64 a2 31) 8)))) ji12 t111 _ A13.out (by first | exact HT | exact Tab.below HT (by repeat (first | (with_reducible first | exact HB.out | apply below_alloc | apply pw_below_drewN | apply below_drew1 | exact Below.refl _ _) | exact HB.out | exact Below.refl _ _)))).mono ?_); rintro e w' ⟨rfl, ⟨nd, rfl⟩⟩; refine ⟨_, rfl, ?_⟩))
          all_goals go_ret
          all_goals exact ⟨by first | rfl | (simp [errW_none, errW_some] <;> rfl) | (simp only [← hji6, ← hji8, ← hji10, ← hji12]; first | rfl | (simp [errW_none, errW_some] <;> rfl)) | (simp [*, errW_none, errW_some] <;> rfl), by repeat (first | (with_reducible first | exact HB.out | apply below_alloc | apply pw_below_drewN | apply below_drew1) | exact HB.out)⟩
        · rw [if_neg c14] at H
          have c14b0 : (t110 == 0) = false := beq_eq_false_iff_ne.mpr c14
          have c14b1 : (t110 != 0) = true := bne_iff_ne.mpr c14
          obtain rfl := Option.some.inj H
          go_enter Tryd.func7, Tryd.ntmps7
          go_wp2_with (first | ((with_reducible refine gate_callee (f := 8) rfl ?_); refine goesL_ (some 9) rfl rfl Tryd.func8 (by kernel_rfl) rfl #[] rfl (by (try simp only [List.map_toArray, List.map_cons, List.map_nil]); first | done | rfl | (simp only [List.length_drop, List.length_take]; rfl)) ?_; (with_reducible refine (corbellaw02_speaks.calls k  true _ A4.out (by first | exact HT | exact Tab.below HT (by repeat (first | (with_reducible first | exact HB.out | apply below_alloc | apply pw_below_drewN | apply below_drew1 | exact Below.refl _ _) | exact HB.out | exact Below.refl _ _)))).mono ?_); rintro e w16 ⟨rfl, hb⟩; refine ⟨_, rfl, ?_⟩; have n0_ := Aside0.mk (below_step (by repeat (first | (with_reducible first | exact HB.out | apply below_alloc | apply pw_below_drewN | apply below_drew1) | exact HB.out)) hb); clear HB; have HB := n0_; clear n0_; (try clear hb); (try clear hb2); (try clear hk); (try clear hi)) | ((with_reducible refine gate_callee (f := 11) rfl ?_); refine goesL_ (some 24) rfl rfl Tryd.func11 (by kernel_rfl) rfl #[.int .i64 (wrap64 ((Go.bits .and .i64 a0 4095) + (wrap64 (Int.tdiv (Go.bits .and .i64 a1 31) 8)))), .int .u8 ji8] rfl (by (try simp only [List.map_toArray, List.map_cons, List.map_nil]); first | done | (simp only [hji8]; rfl) | rfl | (simp only [List.length_drop, List.length_take]; rfl)) ?_; (with_reducible refine (crc_Turn.calls k (wrap64 ((Go.bits .and .i64 a0 4095) + (wrap64 (Int.tdiv (Go.bits .and .i64 a1 31) 8)))) ji8 t110 _ A9.out (by first | exact HT | exact Tab.below HT (by repeat (first | (with_reducible first | exact HB.out | apply below_alloc | apply pw_below_drewN | apply below_drew1 | exact Below.refl _ _) | exact HB.out | exact Below.refl _ _)))).mono ?_); rintro e w' ⟨rfl, ⟨nd, rfl⟩⟩; refine ⟨_, rfl, ?_⟩) | ((with_reducible refine gate_callee (f := 11) rfl ?_); refine goesL_ (some 32) rfl rfl Tryd.func11 (by kernel_rfl) rfl #[.int .i64 (wrap64 ((Go.bits .and .i64 a0 4095) + (wrap64 (Int.tdiv (Go.bits .and .i64 a2 31) 8)))), .int .u8 ji12] rfl (by (try simp only [List.map_toArray, List.map_cons, List.map_nil]); first | done | (simp only [hji12]; rfl) | rfl | (simp only [List.length_drop, List.length_take]; rfl)) ?_; (with_reducible refine (crc_Turn.calls k (wrap64 ((Go.bits .and .i64 a0 4095) + (wrap64 (Int.tdiv (Go.bits .and .i64 a2 31) 8)))) ji12 t111 _ A13.out (by first | exact HT | exact Tab.below HT (by repeat (first | (with_reducible first | exact HB.out | apply below_alloc | apply pw_below_drewN | apply below_drew1 | exact Below.refl _ _) | exact HB.out | exact Below.refl _ _)))).mono ?_); rintro e w' ⟨rfl, ⟨nd, rfl⟩⟩; refine ⟨_, rfl, ?_⟩))
          all_goals go_ret
          all_goals exact ⟨by first | rfl | (simp [errW_none, errW_some] <;> rfl) | (simp only [← hji6, ← hji8, ← hji10, ← hji12]; first | rfl | (simp [errW_none, errW_some] <;> rfl)) | (simp [*, errW_none, errW_some] <;> rfl), by repeat (first | (with_reducible first | exact HB.out | apply below_alloc | apply pw_below_drewN | apply below_drew1) | exact HB.out)⟩
      · rw [if_neg c11] at H
        exact absurd H (by simp)
    · rw [if_neg c7] at H
      exact absurd H (by simp)
  · replace c5 := Bool.eq_false_iff.mpr c5
    subst c5
    have H1 : (some false) = some r := by rw [if_neg (show ¬ (false = true) by decide)] at H; exact H
    clear H
    have H := H1
    clear H1
    obtain rfl := Option.some.inj H
    go_enter Tryd.func7, Tryd.ntmps7
    go_wp2_with (first | ((with_reducible refine gate_callee (f := 8) rfl ?_); refine goesL_ (some 9) rfl rfl Tryd.func8 (by kernel_rfl) rfl #[] rfl (by (try simp only [List.map_toArray, List.map_cons, List.map_nil]); first | done | rfl | (simp only [List.length_drop, List.length_take]; rfl)) ?_; (with_reducible refine (corbellaw02_speaks.calls k  false _ A4.out (by first | exact HT | exact Tab.below HT (by repeat (first | (with_reducible first | exact HB.out | apply below_alloc | apply pw_below_drewN | apply below_drew1 | exact Below.refl _ _) | exact HB.out | exact Below.refl _ _)))).mono ?_); rintro e w17 ⟨rfl, hb⟩; refine ⟨_, rfl, ?_⟩; have n0_ := Aside0.mk (below_step (by repeat (first | (with_reducible first | exact HB.out | apply below_alloc | apply pw_below_drewN | apply below_drew1) | exact HB.out)) hb); clear HB; have HB := n0_; clear n0_; (try clear hb); (try clear hb2); (try clear hk); (try clear hi)))
    all_goals go_ret
    all_goals exact ⟨by first | rfl | (simp [errW_none, errW_some] <;> rfl) | (simp [*, errW_none, errW_some] <;> rfl), by repeat (first | (with_reducible first | exact HB.out | apply below_alloc | apply pw_below_drewN | apply below_drew1) | exact HB.out)⟩

/-- THE ONE PURE STATEMENT of corbellaw02_CrcBits: yours. -/
def corbellaw02_CrcBits.Pure : Prop := ∀ (a0 : Int) (a1 : Int) (a2 : Int), (Lit.int .i64 a0).wf = true → (Lit.int .i64 a1).wf = true → (Lit.int .i64 a2).wf = true → ∃ k, corbellaw02_CrcBits.f k a0 a1 a2 = some true
theorem corbellaw02_CrcBits.walk (P : corbellaw02_CrcBits.Pure) (a0 : Int) (a1 : Int) (a2 : Int) (w : World) (w0 : (Lit.int .i64 a0).wf = true) (w1 : (Lit.int .i64 a1).wf = true) (w2 : (Lit.int .i64 a2).wf = true) (HT : Tab w) :
    Calls Tryd.prog 7 #[.int .i64 a0, .int .i64 a1, .int .i64 a2] w fun e w' => e = .returned (.bool true) ∧ Below w.heap.size w w' := by
  obtain ⟨k, h⟩ := P a0 a1 a2 w0 w1 w2
  refine (corbellaw02_CrcBits.calls k a0 a1 a2 true w h HT).mono ?_
  rintro e w' ⟨rfl, hd⟩
  exact ⟨rfl, hd⟩

end Go.Proofs.YtncdfikcdchimaaDoor.PCrcBits
