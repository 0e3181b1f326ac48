-- written by a program of this session (a print that was turned for this claim)
import Derived.Test.YtncdfikcdchimaaPNumsGetsx0
import Derived.Test.YtncdfikcdchimaaPNumsGetsx1
import Derived.Test.YtncdfikcdchimaaPNumsGetsx2
namespace Go.Proofs.Ytncdfikcdchimaa.PNumsGets
open Go.RowKit Go.Proofs.YtncdfikcdchimaaW.PrintWords Go.Proofs.YtncdfikcdchimaaW.PrintLast Go.Proofs.YtncdfikcdchimaaW.PrintMore
attribute [local go_sem] max2_int min2_int max_two min_two max_three min_three max_four min_four   -- for this text's walks alone
set_option linter.unusedVariables false
set_option linter.unusedSimpArgs false

/-! ### nums_Of: function 13 -/
def nums_Of.l0 : Nat → List Int → Int → Int → Int → Int → Int → Int → Option (Int × Int × Int × Int)
  | 0, _, _, _, _, _, _, _ => none
  | k + 1, x6, x7, x8, x119000, x119001, x119002, x119003 => if x8 < x7 then (if 0 ≤ x8 then (if x8 < (x6.length : Int) then ((nums_Set_With.f x119000 x119001 x119002 x119003 (rd x6 x8)).bind fun bt120 => (nums_Of.l0 k x6 x7 (wrap64 (x8 + 1)) bt120.1 bt120.2.1 bt120.2.2.1 bt120.2.2.2)) else (none)) else (none)) else (some (x119000, x119001, x119002, x119003))
def nums_Of.f (k : Nat) (l0 : List Int) : Option (Int × Int × Int × Int) := nums_Of.l0 k l0 (l0.length : Int) 0 0 0 0 0
theorem nums_Of.mono_l : ∀ k, (∀ y0 y1 y2 y3 y4 y5 y6, LeO (nums_Of.l0 k y0 y1 y2 y3 y4 y5 y6) (nums_Of.l0 (k + 1) y0 y1 y2 y3 y4 y5 y6))
  | 0 => fun _ _ _ _ _ _ _ r h => by simp [nums_Of.l0] at h
  | k + 1 => by
    have ih0 := nums_Of.mono_l k
    · intro y0 y1 y2 y3 y4 y5 y6
      unfold nums_Of.l0
      repeat' first
      | (with_reducible exact ih0 _ _ _ _ _ _ _)
      | (with_reducible exact LeO.refl _)
      | (with_reducible exact LeO.none _)
      | (with_reducible refine LeO.ite ?_ ?_)
      | (with_reducible refine LeO.bind ?_ (fun _ => ?_))
      | exact ih0 _ _ _ _ _ _ _
      | exact LeO.none _
      | refine LeO.ite ?_ ?_
      | refine LeO.bind ?_ (fun _ => ?_)
theorem nums_Of.mono : ∀ a0 k, LeO (nums_Of.f k a0) (nums_Of.f (k + 1) a0) := by
  intro a0 k
  have ih0 := nums_Of.mono_l k
  unfold nums_Of.f
  repeat' first
      | (with_reducible exact ih0 _ _ _ _ _ _ _)
      | (with_reducible exact LeO.refl _)
      | (with_reducible exact LeO.none _)
      | (with_reducible refine LeO.ite ?_ ?_)
      | (with_reducible refine LeO.bind ?_ (fun _ => ?_))
      | exact ih0 _ _ _ _ _ _ _
      | exact LeO.none _
      | refine LeO.ite ?_ ?_
      | refine LeO.bind ?_ (fun _ => ?_)
set_option maxHeartbeats 80000000 in
set_option maxRecDepth 100000 in
theorem nums_Of.calls (k : Nat) (A0 : Option Addr) (c0 : Nat) (l0 : List Int) (r1 : Int) (r2 : Int) (r3 : Int) (r4 : Int) (w : World) (hr0 : Kd.C (Kd.int .i64) w A0 l0.length l0) (hc0 : l0.length ≤ c0) (h : nums_Of.f k l0 = some (r1, r2, r3, r4)) :
    Calls Try.prog 13 #[.slice A0 l0.length c0] w fun e w' => e = .returned (.agg #[.int .u64 r1, .int .u64 r2, .int .u64 r3, .int .u64 r4]) ∧ Below w.heap.size w w' := by
  have hu29 := Try.underlying29
  have HR0 := Aside0.mk hr0
  have HC0 := Aside0.mk hc0
  clear hr0 hc0
  have HB := Aside0.mk (Below.refl w.heap.size w)
  have H : (nums_Of.l0 k l0 (l0.length : Int) 0 0 0 0 0) = some (r1, r2, r3, r4) := h
  clear h
  have H' := Aside0.mk H
  clear H
  go_enter Try.func13, Try.ntmps13
  go_wp2_with (first | ((with_reducible refine gate_dst (N := 2) rfl ?_); refine box_event ?hg (N := 2) ?hd (cs := #[.int .u64 0, .int .u64 0, .int .u64 0, .int .u64 0]) (t := 29) ?hr ?_; (case hd => rfl); (case hg => rfl); (case hr => first | (go_simp; done) | (go_simp; rfl)); intro gb117 hg w2 hbox hb; have n0_ := Aside0.mk (below_step (by repeat (first | (with_reducible first | exact HB.out | apply below_alloc | apply pw_below_drewN | apply below_drew1) | exact HB.out)) hb); have n1_ := Aside0.mk (hbox); have n2_ := Aside0.mk ((by rw [hg]; exact (below_size (by repeat (first | (with_reducible first | exact HB.out | apply below_alloc | apply pw_below_drewN | apply below_drew1) | exact HB.out))) : w.heap.size ≤ gb117)); have n3_ := Aside0.mk ((by rw [hg]; exact (below_size (by repeat (first | (with_reducible first | exact HB.out | apply below_alloc | apply pw_below_drewN | apply below_drew1) | exact HB.out))) : w.heap.size ≤ gb117)); clear HB; have HB := n0_; have BK117 := n1_; have GW117 := n2_; have GE117 := n3_; clear n0_ n1_ n2_ n3_; clear hb hbox hg) | ((with_reducible refine gate_dst (N := 3) rfl ?_); refine box_event ?hg (N := 3) ?hd (cs := #[.int .u64 0, .int .u64 0, .int .u64 0, .int .u64 0]) (t := 29) ?hr ?_; (case hd => rfl); (case hg => rfl); (case hr => first | (go_simp; done) | (go_simp; rfl)); intro gb118 hg w3 hbox hb; have n0_ := Aside0.mk (blk_below (g := gb117) (o := .cells #[.int .u64 0, .int .u64 0, .int .u64 0, .int .u64 0] 29 (0, 0)) (by (with_reducible repeat (first | refine blk_drewN ?_ _ | refine blk_drew ?_ | refine blk_alloc ?_ _)); exact BK117.out) hb); have n1_ := Aside0.mk (below_step (by repeat (first | (with_reducible first | exact HB.out | apply below_alloc | apply pw_below_drewN | apply below_drew1 | refine below_set ?_ GE117.out) | exact HB.out)) hb); have n2_ := Aside0.mk (hbox); have n3_ := Aside0.mk ((by rw [hg]; exact (below_size (by repeat (first | (with_reducible first | exact HB.out | apply below_alloc | apply pw_below_drewN | apply below_drew1 | refine below_set ?_ GE117.out) | exact HB.out))) : w.heap.size ≤ gb118)); have n4_ := Aside0.mk ((by rw [hg]; exact (below_size (by repeat (first | (with_reducible first | exact HB.out | apply below_alloc | apply pw_below_drewN | apply below_drew1 | refine below_set ?_ GE117.out) | exact HB.out))) : w.heap.size ≤ gb118)); have n5_ := Aside0.mk ((by rw [hg]; exact Nat.ne_of_lt (blk_lt (g := gb117) (o := .cells #[.int .u64 0, .int .u64 0, .int .u64 0, .int .u64 0] 29 (0, 0)) (by (with_reducible repeat (first | refine blk_drewN ?_ _ | refine blk_drew ?_ | refine blk_alloc ?_ _)); exact BK117.out)) : gb117 ≠ gb118)); have n6_ := Aside0.mk ((by rw [hg]; exact Nat.ne_of_gt (blk_lt (g := gb117) (o := .cells #[.int .u64 0, .int .u64 0, .int .u64 0, .int .u64 0] 29 (0, 0)) (by (with_reducible repeat (first | refine blk_drewN ?_ _ | refine blk_drew ?_ | refine blk_alloc ?_ _)); exact BK117.out)) : gb118 ≠ gb117)); clear BK117; clear HB; have BK117 := n0_; have HB := n1_; have BK118 := n2_; have GW118 := n3_; have GE118 := n4_; have NB117_118 := n5_; have NB118_117 := n6_; clear n0_ n1_ n2_ n3_ n4_ n5_ n6_; clear hb hbox hg))
  go_loopg [8] k (fun kq v8 w' => ∃ (x8_1 : Int) (x119000_1 : Int) (x119001_1 : Int) (x119002_1 : Int) (x119003_1 : Int), v8 = .int .i64 x8_1 ∧ Aside0 (nums_Of.l0 kq l0 (l0.length : Int) x8_1 x119000_1 x119001_1 x119002_1 x119003_1 = some (r1, r2, r3, r4)) ∧ Aside0 (kq ≤ k) ∧ Aside0 (w'.heap[gb117]? = some (.cells #[.int .u64 0, .int .u64 0, .int .u64 0, .int .u64 0] 29 (0, 0))) ∧ Aside0 (w'.heap[gb118]? = some (.cells #[.int .u64 x119000_1, .int .u64 x119001_1, .int .u64 x119002_1, .int .u64 x119003_1] 29 (0, 0))) ∧ Aside0 (Below w.heap.size w w'))
  case atStart => exact ⟨(0), (0), (0), (0), (0), (by first | rfl | (simp; done) | (simp [*]; done)), H', ⟨Nat.le_refl _⟩, ⟨by (with_reducible repeat (first | refine blk_drewN ?_ _ | refine blk_drew ?_ | refine blk_alloc ?_ _)); exact BK117.out⟩, ⟨by (with_reducible repeat (first | refine blk_drewN ?_ _ | refine blk_drew ?_ | refine blk_alloc ?_ _)); exact BK118.out⟩, ⟨by repeat (first | (with_reducible first | exact HB.out | apply below_alloc | apply pw_below_drewN | apply below_drew1 | refine below_set ?_ GE117.out | refine below_set ?_ GE118.out) | exact HB.out)⟩⟩
  case round =>
    clear H'
    try clear c1
    try clear p2
    obtain ⟨x8_1, x119000_1, x119001_1, x119002_1, x119003_1, rfl, HA, HK1, BK117, BK118, HB⟩ := hrel
    cases gk with
    | zero => exact absurd HA.out (by simp [nums_Of.l0])
    | succ k1 =>
      have H := HA.out
      clear HA
      simp only [nums_Of.l0] at H
      by_cases c4 : x8_1 < (l0.length : Int)
      · rw [if_pos c4] at H
        have c4b0 : decide (x8_1 < (l0.length : Int)) = true := decide_eq_true c4
        clear c4
        by_cases c5 : 0 ≤ x8_1
        · rw [if_pos c5] at H
          have c5b0 : decide (0 ≤ x8_1) = true := decide_eq_true c5
          clear c5
          by_cases c6 : x8_1 < (l0.length : Int)
          · rw [if_pos c6] at H
            have c6b0 : decide (x8_1 < (l0.length : Int)) = true := decide_eq_true c6
            clear c6
            replace H := Option.bind_eq_some_iff.mp H
            obtain ⟨⟨t120, t121, t122, t123⟩, A70, H⟩ := H
            replace H : (nums_Of.l0 k1 l0 (l0.length : Int) (wrap64 (x8_1 + 1)) t120 t121 t122 t123) = some (r1, r2, r3, r4) := H
            have A7 := Aside0.mk A70
            clear A70
            have H' := Aside0.mk H
            clear H
            have p119 : 0 ≤ (x8_1 : Int) := of_decide_eq_true (by first | (with_reducible assumption) | assumption)
            have q119 : x8_1 < (l0.length : Int) := of_decide_eq_true (by first | (with_reducible assumption) | assumption)
            obtain ⟨ad119, e119, hx119_0⟩ := Kd.at_int HR0.out x8_1 p119 q119
            cases e119
            replace hx119_0 := (HB.out.cell (World.block_lt_of_cell? w _ hx119_0)).trans hx119_0
            replace p119 := eq_true p119
            replace q119 := eq_true q119
            have hnb8 := NB118_117.out
            have hnc8 := NB117_118.out
            have hcz9_0 : wr.cell? ⟨gb118, 0, none⟩ = some (.int .u64 x119000_1) := (blk_cell BK118.out 0).trans rfl
            have hcz9_1 : wr.cell? ⟨gb118, 1, none⟩ = some (.int .u64 x119001_1) := (blk_cell BK118.out 1).trans rfl
            have hcz9_2 : wr.cell? ⟨gb118, 2, none⟩ = some (.int .u64 x119002_1) := (blk_cell BK118.out 2).trans rfl
            have hcz9_3 : wr.cell? ⟨gb118, 3, none⟩ = some (.int .u64 x119003_1) := (blk_cell BK118.out 3).trans rfl
            have hfz9_0 := blk_frozen BK118.out 0
            have hfz9_1 := blk_frozen BK118.out 1
            have hfz9_2 := blk_frozen BK118.out 2
            have hfz9_3 := blk_frozen BK118.out 3
            go_wp2_with (first | ((with_reducible refine gate_callee (f := 21) rfl ?_); refine goesL_ (some 14) rfl rfl Try.func21 (by kernel_rfl) rfl #[.agg #[.int .u64 x119000_1, .int .u64 x119001_1, .int .u64 x119002_1, .int .u64 x119003_1], .int .i64 (rd l0 x8_1)] rfl (by (try simp only [List.map_toArray, List.map_cons, List.map_nil]); first | done | rfl | (simp only [List.length_drop, List.length_take]; rfl)) ?_; (with_reducible refine (nums_Set_With.calls x119000_1 x119001_1 x119002_1 x119003_1 (rd l0 x8_1) t120 t121 t122 t123 _ A7.out).mono ?_); rintro e w10 ⟨rfl, hb⟩; refine ⟨_, rfl, ?_⟩; have n0_ := Aside0.mk (blk_below (g := gb117) (o := .cells #[.int .u64 0, .int .u64 0, .int .u64 0, .int .u64 0] 29 (0, 0)) (by (with_reducible repeat (first | refine blk_drewN ?_ _ | refine blk_drew ?_ | refine blk_alloc ?_ _)); exact BK117.out) hb); have n1_ := Aside0.mk (blk_below (g := gb118) (o := .cells #[.int .u64 x119000_1, .int .u64 x119001_1, .int .u64 x119002_1, .int .u64 x119003_1] 29 (0, 0)) (by (with_reducible repeat (first | refine blk_drewN ?_ _ | refine blk_drew ?_ | refine blk_alloc ?_ _)); exact BK118.out) hb); have n2_ := Aside0.mk (below_step (by repeat (first | (with_reducible first | exact HB.out | apply below_alloc | apply pw_below_drewN | apply below_drew1 | refine below_set ?_ GE117.out | refine below_set ?_ GE118.out) | exact HB.out)) hb); clear BK117; clear BK118; clear HB; have BK117 := n0_; have BK118 := n1_; have HB := n2_; clear n0_ n1_ n2_; (try clear hb); (try clear hb2); (try clear hk); (try clear hi); have hcz11_0 : w10.cell? ⟨gb118, 0, none⟩ = some (.int .u64 x119000_1) := (blk_cell BK118.out 0).trans rfl; have hcz11_1 : w10.cell? ⟨gb118, 1, none⟩ = some (.int .u64 x119001_1) := (blk_cell BK118.out 1).trans rfl; have hcz11_2 : w10.cell? ⟨gb118, 2, none⟩ = some (.int .u64 x119002_1) := (blk_cell BK118.out 2).trans rfl; have hcz11_3 : w10.cell? ⟨gb118, 3, none⟩ = some (.int .u64 x119003_1) := (blk_cell BK118.out 3).trans rfl; have hfz11_0 := blk_frozen BK118.out 0; have hfz11_1 := blk_frozen BK118.out 1; have hfz11_2 := blk_frozen BK118.out 2; have hfz11_3 := blk_frozen BK118.out 3))
            go_roundg k1
            case measure => have := HK1.out; omega
            case rel => exact ⟨(wrap64 (x8_1 + 1)), (t120), (t121), (t122), (t123), (by first | rfl | (simp; done) | (simp [*]; done)), H', ⟨by have := HK1.out; omega⟩, ⟨by (with_reducible repeat (first | refine blk_drewN ?_ _ | refine blk_drew ?_ | refine blk_alloc ?_ _ | refine blk_far ?_ NB117_118.out _)); exact BK117.out⟩, ⟨by (with_reducible repeat (first | refine blk_drewN ?_ _ | refine blk_drew ?_ | refine blk_alloc ?_ _)); refine blk_put (cs := #[.int .u64 t120, .int .u64 t121, .int .u64 t122, .int .u64 x119003_1]) ?_ 3 _ rfl; (with_reducible repeat (first | refine blk_drewN ?_ _ | refine blk_drew ?_ | refine blk_alloc ?_ _)); refine blk_put (cs := #[.int .u64 t120, .int .u64 t121, .int .u64 x119002_1, .int .u64 x119003_1]) ?_ 2 _ rfl; (with_reducible repeat (first | refine blk_drewN ?_ _ | refine blk_drew ?_ | refine blk_alloc ?_ _)); refine blk_put (cs := #[.int .u64 t120, .int .u64 x119001_1, .int .u64 x119002_1, .int .u64 x119003_1]) ?_ 1 _ rfl; (with_reducible repeat (first | refine blk_drewN ?_ _ | refine blk_drew ?_ | refine blk_alloc ?_ _)); refine blk_put (cs := #[.int .u64 x119000_1, .int .u64 x119001_1, .int .u64 x119002_1, .int .u64 x119003_1]) ?_ 0 _ rfl; (with_reducible repeat (first | refine blk_drewN ?_ _ | refine blk_drew ?_ | refine blk_alloc ?_ _)); exact BK118.out⟩, ⟨by repeat (first | (with_reducible first | exact HB.out | apply below_alloc | apply pw_below_drewN | apply below_drew1 | refine below_set ?_ GE117.out | refine below_set ?_ GE118.out) | exact HB.out)⟩⟩
          · rw [if_neg c6] at H
            exact absurd H (by simp)
        · rw [if_neg c5] at H
          exact absurd H (by simp)
      · rw [if_neg c4] at H
        have c4b0 : decide (x8_1 < (l0.length : Int)) = false := decide_eq_false c4
        clear c4
        simp only [Option.some.injEq, Prod.mk.injEq] at H
        obtain ⟨rfl, rfl, rfl, rfl⟩ := H
        have hnb12 := NB118_117.out
        have hnc12 := NB117_118.out
        have hcz13_0 : wr.cell? ⟨gb118, 0, none⟩ = some (.int .u64 x119000_1) := (blk_cell BK118.out 0).trans rfl
        have hcz13_1 : wr.cell? ⟨gb118, 1, none⟩ = some (.int .u64 x119001_1) := (blk_cell BK118.out 1).trans rfl
        have hcz13_2 : wr.cell? ⟨gb118, 2, none⟩ = some (.int .u64 x119002_1) := (blk_cell BK118.out 2).trans rfl
        have hcz13_3 : wr.cell? ⟨gb118, 3, none⟩ = some (.int .u64 x119003_1) := (blk_cell BK118.out 3).trans rfl
        have hfz13_0 := blk_frozen BK118.out 0
        have hfz13_1 := blk_frozen BK118.out 1
        have hfz13_2 := blk_frozen BK118.out 2
        have hfz13_3 := blk_frozen BK118.out 3
        have hcz14_0 : wr.cell? ⟨gb117, 0, none⟩ = some (.int .u64 0) := (blk_cell BK117.out 0).trans rfl
        have hcz14_1 : wr.cell? ⟨gb117, 1, none⟩ = some (.int .u64 0) := (blk_cell BK117.out 1).trans rfl
        have hcz14_2 : wr.cell? ⟨gb117, 2, none⟩ = some (.int .u64 0) := (blk_cell BK117.out 2).trans rfl
        have hcz14_3 : wr.cell? ⟨gb117, 3, none⟩ = some (.int .u64 0) := (blk_cell BK117.out 3).trans rfl
        have hfz14_0 := blk_frozen BK117.out 0
        have hfz14_1 := blk_frozen BK117.out 1
        have hfz14_2 := blk_frozen BK117.out 2
        have hfz14_3 := blk_frozen BK117.out 3
        go_wp2
        refine bodyPost_ret (results_cell_row rfl _ _ gb117 29 #[.int .u64 x119000_1, .int .u64 x119001_1, .int .u64 x119002_1, .int .u64 x119003_1] (0, 0) _ rfl (by (with_reducible repeat (first | refine blk_drewN ?_ _ | refine blk_drew ?_ | refine blk_alloc ?_ _)); refine blk_put (cs := #[.int .u64 x119000_1, .int .u64 x119001_1, .int .u64 x119002_1, .int .u64 0]) ?_ 3 _ rfl; (with_reducible repeat (first | refine blk_drewN ?_ _ | refine blk_drew ?_ | refine blk_alloc ?_ _)); refine blk_put (cs := #[.int .u64 x119000_1, .int .u64 x119001_1, .int .u64 0, .int .u64 0]) ?_ 2 _ rfl; (with_reducible repeat (first | refine blk_drewN ?_ _ | refine blk_drew ?_ | refine blk_alloc ?_ _)); refine blk_put (cs := #[.int .u64 x119000_1, .int .u64 0, .int .u64 0, .int .u64 0]) ?_ 1 _ rfl; (with_reducible repeat (first | refine blk_drewN ?_ _ | refine blk_drew ?_ | refine blk_alloc ?_ _)); refine blk_put (cs := #[.int .u64 0, .int .u64 0, .int .u64 0, .int .u64 0]) ?_ 0 _ rfl; (with_reducible repeat (first | refine blk_drewN ?_ _ | refine blk_drew ?_ | refine blk_alloc ?_ _)); exact BK117.out) Try.underlying29 rfl (by kernel_rfl)) rfl ?_
        all_goals exact ⟨by first | rfl | (simp [errW_none, errW_some] <;> rfl) | (simp [*, errW_none, errW_some] <;> rfl), by repeat (first | (with_reducible first | exact HB.out | apply below_alloc | apply pw_below_drewN | apply below_drew1 | refine below_set ?_ GE117.out | refine below_set ?_ GE118.out) | exact HB.out)⟩

/-! ### nums_Set_Has_0: function 15 -/
def nums_Set_Has_0.f (a0_0 : Int) (a0_1 : Int) (a0_2 : Int) (a0_3 : Int) (a1 : Int) : Option (Bool) := (nums_holds.f a1).bind fun t125 => (if t125 = true then (if 0 ≤ (Int.tmod a1 64) then (some ((Go.bits .and .u64 (shr .u64 a0_0 (Int.tmod a1 64)) 1) == 1)) else (none)) else (some false))
set_option maxHeartbeats 80000000 in
set_option maxRecDepth 100000 in
theorem nums_Set_Has_0.calls (a0_0 : Int) (a0_1 : Int) (a0_2 : Int) (a0_3 : Int) (a1 : Int) (r : Bool) (w : World) (h : nums_Set_Has_0.f a0_0 a0_1 a0_2 a0_3 a1 = some r) (hq : wrap64 (Int.tdiv a1 64) = 0) :
    Calls Try.prog 15 #[.agg #[.int .u64 a0_0, .int .u64 a0_1, .int .u64 a0_2, .int .u64 a0_3], .int .i64 a1] w fun e w' => e = .returned (.bool r) ∧ Below w.heap.size w w' := by
  have hu29 := Try.underlying29
  have HB := Aside0.mk (Below.refl w.heap.size w)
  have H : ((nums_holds.f a1).bind fun t125 => (if t125 = true then (if 0 ≤ (Int.tmod a1 64) then (some ((Go.bits .and .u64 (shr .u64 a0_0 (Int.tmod a1 64)) 1) == 1)) else (none)) else (some false))) = some r := h
  clear h
  replace H := Option.bind_eq_some_iff.mp H
  obtain ⟨t125, A30, H⟩ := H
  replace H : (if t125 = true then (if 0 ≤ (Int.tmod a1 64) then (some ((Go.bits .and .u64 (shr .u64 a0_0 (Int.tmod a1 64)) 1) == 1)) else (none)) else (some false)) = some r := H
  have A3 := Aside0.mk A30
  clear A30
  by_cases c4 : t125 = true
  · subst c4
    have H1 : (if 0 ≤ (Int.tmod a1 64) then (some ((Go.bits .and .u64 (shr .u64 a0_0 (Int.tmod a1 64)) 1) == 1)) else (none)) = some r := by rw [if_pos rfl] at H; exact H
    clear H
    have H := H1
    clear H1
    obtain ⟨ji5, hji5⟩ : ∃ j_ : Int, (Int.tmod a1 64) = j_ := ⟨_, rfl⟩
    replace H : (if 0 ≤ (ji5) then (some ((Go.bits .and .u64 (shr .u64 a0_0 (ji5)) 1) == 1)) else (none)) = some r := by first | (rw [hji5] at H; exact H) | (simp only [hji5] at H ⊢; exact H)
    (try rw [hji5] at A3)
    by_cases c6 : 0 ≤ (ji5)
    · rw [if_pos c6] at H
      have c6b0 := eq_true c6
      have c6b1 : decide (0 ≤ (ji5)) = true := decide_eq_true c6
      clear c6
      obtain ⟨ji7, hji7⟩ : ∃ j_ : Int, (shr .u64 a0_0 (ji5)) = j_ := ⟨_, rfl⟩
      replace H : (some ((Go.bits .and .u64 (ji7) 1) == 1)) = some r := by first | (rw [hji7] at H; exact H) | (simp only [hji7] at H ⊢; exact H)
      (try rw [hji7] at A3)
      have hji7_ : (a0_0 / 2 ^ min (ji5).toNat 64) = ji7 := hji7
      have hji7z : (ji5) ≤ 64 → (a0_0 / 2 ^ (ji5).toNat) = ji7 := shr_small hji7
      obtain rfl := Option.some.inj H
      go_enter Try.func15, Try.ntmps15
      go_wp2_with (first | ((with_reducible refine gate_dst (N := 2) rfl ?_); refine box_event ?hg (N := 2) ?hd (cs := #[.int .u64 a0_0, .int .u64 a0_1, .int .u64 a0_2, .int .u64 a0_3]) (t := 29) ?hr ?_; (case hd => rfl); (case hg => rfl); (case hr => first | (go_simp; done) | (go_simp; rfl)); intro gb124 hg w8 hbox hb; have n0_ := Aside0.mk (below_step (by repeat (first | (with_reducible first | exact HB.out | apply below_alloc | apply pw_below_drewN | apply below_drew1) | exact HB.out)) hb); have n1_ := Aside0.mk (hbox); have n2_ := Aside0.mk ((by rw [hg]; exact (below_size (by repeat (first | (with_reducible first | exact HB.out | apply below_alloc | apply pw_below_drewN | apply below_drew1) | exact HB.out))) : w.heap.size ≤ gb124)); have n3_ := Aside0.mk ((by rw [hg]; exact (below_size (by repeat (first | (with_reducible first | exact HB.out | apply below_alloc | apply pw_below_drewN | apply below_drew1) | exact HB.out))) : w.heap.size ≤ gb124)); clear HB; have HB := n0_; have BK124 := n1_; have GW124 := n2_; have GE124 := n3_; clear n0_ n1_ n2_ n3_; clear hb hbox hg) | ((with_reducible refine gate_callee (f := 27) rfl ?_); refine goesL_ (some 6) rfl rfl Try.func27 (by kernel_rfl) rfl #[.int .i64 a1] rfl (by (try simp only [List.map_toArray, List.map_cons, List.map_nil]); first | done | rfl | (simp only [List.length_drop, List.length_take]; rfl)) ?_; (with_reducible refine (nums_holds.calls a1 true _ A3.out).mono ?_); rintro e w' ⟨rfl, ⟨nd, rfl⟩⟩; refine ⟨_, rfl, ?_⟩; have hcz9_0 : w8.cell? ⟨gb124, 0, none⟩ = some (.int .u64 a0_0) := (blk_cell BK124.out 0).trans rfl; have hcz9_1 : w8.cell? ⟨gb124, 1, none⟩ = some (.int .u64 a0_1) := (blk_cell BK124.out 1).trans rfl; have hcz9_2 : w8.cell? ⟨gb124, 2, none⟩ = some (.int .u64 a0_2) := (blk_cell BK124.out 2).trans rfl; have hcz9_3 : w8.cell? ⟨gb124, 3, none⟩ = some (.int .u64 a0_3) := (blk_cell BK124.out 3).trans rfl; have hfz9_0 := blk_frozen BK124.out 0; have hfz9_1 := blk_frozen BK124.out 1; have hfz9_2 := blk_frozen BK124.out 2; have hfz9_3 := blk_frozen BK124.out 3))
      all_goals go_ret
      all_goals exact ⟨by first | rfl | (simp [errW_none, errW_some] <;> rfl) | (simp only [← hji5, ← hji7]; first | rfl | (simp [errW_none, errW_some] <;> rfl)) | (simp [*, errW_none, errW_some] <;> rfl), by repeat (first | (with_reducible first | exact HB.out | apply below_alloc | apply pw_below_drewN | apply below_drew1 | refine below_set ?_ GE124.out) | exact HB.out)⟩
    · rw [if_neg c6] at H
      exact absurd H (by simp)
  · replace c4 := Bool.eq_false_iff.mpr c4
    subst c4
    have H1 : (some false) = some r := by rw [if_neg (show ¬ (false = true) by decide)] at H; exact H
    clear H
    have H := H1
    clear H1
    obtain rfl := Option.some.inj H
    go_enter Try.func15, Try.ntmps15
    go_wp2_with (first | ((with_reducible refine gate_dst (N := 2) rfl ?_); refine box_event ?hg (N := 2) ?hd (cs := #[.int .u64 a0_0, .int .u64 a0_1, .int .u64 a0_2, .int .u64 a0_3]) (t := 29) ?hr ?_; (case hd => rfl); (case hg => rfl); (case hr => first | (go_simp; done) | (go_simp; rfl)); intro gb124 hg w10 hbox hb; have n0_ := Aside0.mk (below_step (by repeat (first | (with_reducible first | exact HB.out | apply below_alloc | apply pw_below_drewN | apply below_drew1) | exact HB.out)) hb); have n1_ := Aside0.mk (hbox); have n2_ := Aside0.mk ((by rw [hg]; exact (below_size (by repeat (first | (with_reducible first | exact HB.out | apply below_alloc | apply pw_below_drewN | apply below_drew1) | exact HB.out))) : w.heap.size ≤ gb124)); have n3_ := Aside0.mk ((by rw [hg]; exact (below_size (by repeat (first | (with_reducible first | exact HB.out | apply below_alloc | apply pw_below_drewN | apply below_drew1) | exact HB.out))) : w.heap.size ≤ gb124)); clear HB; have HB := n0_; have BK124 := n1_; have GW124 := n2_; have GE124 := n3_; clear n0_ n1_ n2_ n3_; clear hb hbox hg) | ((with_reducible refine gate_callee (f := 27) rfl ?_); refine goesL_ (some 6) rfl rfl Try.func27 (by kernel_rfl) rfl #[.int .i64 a1] rfl (by (try simp only [List.map_toArray, List.map_cons, List.map_nil]); first | done | rfl | (simp only [List.length_drop, List.length_take]; rfl)) ?_; (with_reducible refine (nums_holds.calls a1 false _ A3.out).mono ?_); rintro e w' ⟨rfl, ⟨nd, rfl⟩⟩; refine ⟨_, rfl, ?_⟩))
    all_goals go_ret
    all_goals exact ⟨by first | rfl | (simp [errW_none, errW_some] <;> rfl) | (simp [*, errW_none, errW_some] <;> rfl), by repeat (first | (with_reducible first | exact HB.out | apply below_alloc | apply pw_below_drewN | apply below_drew1 | refine below_set ?_ GE124.out) | exact HB.out)⟩

/-! ### nums_Set_Has_1: function 15 -/
def nums_Set_Has_1.f (a0_0 : Int) (a0_1 : Int) (a0_2 : Int) (a0_3 : Int) (a1 : Int) : Option (Bool) := (nums_holds.f a1).bind fun t127 => (if t127 = true then (if 0 ≤ (Int.tmod a1 64) then (some ((Go.bits .and .u64 (shr .u64 a0_1 (Int.tmod a1 64)) 1) == 1)) else (none)) else (some false))
set_option maxHeartbeats 80000000 in
set_option maxRecDepth 100000 in
theorem nums_Set_Has_1.calls (a0_0 : Int) (a0_1 : Int) (a0_2 : Int) (a0_3 : Int) (a1 : Int) (r : Bool) (w : World) (h : nums_Set_Has_1.f a0_0 a0_1 a0_2 a0_3 a1 = some r) (hq : wrap64 (Int.tdiv a1 64) = 1) :
    Calls Try.prog 15 #[.agg #[.int .u64 a0_0, .int .u64 a0_1, .int .u64 a0_2, .int .u64 a0_3], .int .i64 a1] w fun e w' => e = .returned (.bool r) ∧ Below w.heap.size w w' := by
  have hu29 := Try.underlying29
  have HB := Aside0.mk (Below.refl w.heap.size w)
  have H : ((nums_holds.f a1).bind fun t127 => (if t127 = true then (if 0 ≤ (Int.tmod a1 64) then (some ((Go.bits .and .u64 (shr .u64 a0_1 (Int.tmod a1 64)) 1) == 1)) else (none)) else (some false))) = some r := h
  clear h
  replace H := Option.bind_eq_some_iff.mp H
  obtain ⟨t127, A30, H⟩ := H
  replace H : (if t127 = true then (if 0 ≤ (Int.tmod a1 64) then (some ((Go.bits .and .u64 (shr .u64 a0_1 (Int.tmod a1 64)) 1) == 1)) else (none)) else (some false)) = some r := H
  have A3 := Aside0.mk A30
  clear A30
  by_cases c4 : t127 = true
  · subst c4
    have H1 : (if 0 ≤ (Int.tmod a1 64) then (some ((Go.bits .and .u64 (shr .u64 a0_1 (Int.tmod a1 64)) 1) == 1)) else (none)) = some r := by rw [if_pos rfl] at H; exact H
    clear H
    have H := H1
    clear H1
    obtain ⟨ji5, hji5⟩ : ∃ j_ : Int, (Int.tmod a1 64) = j_ := ⟨_, rfl⟩
    replace H : (if 0 ≤ (ji5) then (some ((Go.bits .and .u64 (shr .u64 a0_1 (ji5)) 1) == 1)) else (none)) = some r := by first | (rw [hji5] at H; exact H) | (simp only [hji5] at H ⊢; exact H)
    (try rw [hji5] at A3)
    by_cases c6 : 0 ≤ (ji5)
    · rw [if_pos c6] at H
      have c6b0 := eq_true c6
      have c6b1 : decide (0 ≤ (ji5)) = true := decide_eq_true c6
      clear c6
      obtain ⟨ji7, hji7⟩ : ∃ j_ : Int, (shr .u64 a0_1 (ji5)) = j_ := ⟨_, rfl⟩
      replace H : (some ((Go.bits .and .u64 (ji7) 1) == 1)) = some r := by first | (rw [hji7] at H; exact H) | (simp only [hji7] at H ⊢; exact H)
      (try rw [hji7] at A3)
      have hji7_ : (a0_1 / 2 ^ min (ji5).toNat 64) = ji7 := hji7
      have hji7z : (ji5) ≤ 64 → (a0_1 / 2 ^ (ji5).toNat) = ji7 := shr_small hji7
      obtain rfl := Option.some.inj H
      go_enter Try.func15, Try.ntmps15
      go_wp2_with (first | ((with_reducible refine gate_dst (N := 2) rfl ?_); refine box_event ?hg (N := 2) ?hd (cs := #[.int .u64 a0_0, .int .u64 a0_1, .int .u64 a0_2, .int .u64 a0_3]) (t := 29) ?hr ?_; (case hd => rfl); (case hg => rfl); (case hr => first | (go_simp; done) | (go_simp; rfl)); intro gb126 hg w8 hbox hb; have n0_ := Aside0.mk (below_step (by repeat (first | (with_reducible first | exact HB.out | apply below_alloc | apply pw_below_drewN | apply below_drew1) | exact HB.out)) hb); have n1_ := Aside0.mk (hbox); have n2_ := Aside0.mk ((by rw [hg]; exact (below_size (by repeat (first | (with_reducible first | exact HB.out | apply below_alloc | apply pw_below_drewN | apply below_drew1) | exact HB.out))) : w.heap.size ≤ gb126)); have n3_ := Aside0.mk ((by rw [hg]; exact (below_size (by repeat (first | (with_reducible first | exact HB.out | apply below_alloc | apply pw_below_drewN | apply below_drew1) | exact HB.out))) : w.heap.size ≤ gb126)); clear HB; have HB := n0_; have BK126 := n1_; have GW126 := n2_; have GE126 := n3_; clear n0_ n1_ n2_ n3_; clear hb hbox hg) | ((with_reducible refine gate_callee (f := 27) rfl ?_); refine goesL_ (some 6) rfl rfl Try.func27 (by kernel_rfl) rfl #[.int .i64 a1] rfl (by (try simp only [List.map_toArray, List.map_cons, List.map_nil]); first | done | rfl | (simp only [List.length_drop, List.length_take]; rfl)) ?_; (with_reducible refine (nums_holds.calls a1 true _ A3.out).mono ?_); rintro e w' ⟨rfl, ⟨nd, rfl⟩⟩; refine ⟨_, rfl, ?_⟩; have hcz9_0 : w8.cell? ⟨gb126, 0, none⟩ = some (.int .u64 a0_0) := (blk_cell BK126.out 0).trans rfl; have hcz9_1 : w8.cell? ⟨gb126, 1, none⟩ = some (.int .u64 a0_1) := (blk_cell BK126.out 1).trans rfl; have hcz9_2 : w8.cell? ⟨gb126, 2, none⟩ = some (.int .u64 a0_2) := (blk_cell BK126.out 2).trans rfl; have hcz9_3 : w8.cell? ⟨gb126, 3, none⟩ = some (.int .u64 a0_3) := (blk_cell BK126.out 3).trans rfl; have hfz9_0 := blk_frozen BK126.out 0; have hfz9_1 := blk_frozen BK126.out 1; have hfz9_2 := blk_frozen BK126.out 2; have hfz9_3 := blk_frozen BK126.out 3))
      all_goals go_ret
      all_goals exact ⟨by first | rfl | (simp [errW_none, errW_some] <;> rfl) | (simp only [← hji5, ← hji7]; first | rfl | (simp [errW_none, errW_some] <;> rfl)) | (simp [*, errW_none, errW_some] <;> rfl), by repeat (first | (with_reducible first | exact HB.out | apply below_alloc | apply pw_below_drewN | apply below_drew1 | refine below_set ?_ GE126.out) | exact HB.out)⟩
    · rw [if_neg c6] at H
      exact absurd H (by simp)
  · replace c4 := Bool.eq_false_iff.mpr c4
    subst c4
    have H1 : (some false) = some r := by rw [if_neg (show ¬ (false = true) by decide)] at H; exact H
    clear H
    have H := H1
    clear H1
    obtain rfl := Option.some.inj H
    go_enter Try.func15, Try.ntmps15
    go_wp2_with (first | ((with_reducible refine gate_dst (N := 2) rfl ?_); refine box_event ?hg (N := 2) ?hd (cs := #[.int .u64 a0_0, .int .u64 a0_1, .int .u64 a0_2, .int .u64 a0_3]) (t := 29) ?hr ?_; (case hd => rfl); (case hg => rfl); (case hr => first | (go_simp; done) | (go_simp; rfl)); intro gb126 hg w10 hbox hb; have n0_ := Aside0.mk (below_step (by repeat (first | (with_reducible first | exact HB.out | apply below_alloc | apply pw_below_drewN | apply below_drew1) | exact HB.out)) hb); have n1_ := Aside0.mk (hbox); have n2_ := Aside0.mk ((by rw [hg]; exact (below_size (by repeat (first | (with_reducible first | exact HB.out | apply below_alloc | apply pw_below_drewN | apply below_drew1) | exact HB.out))) : w.heap.size ≤ gb126)); have n3_ := Aside0.mk ((by rw [hg]; exact (below_size (by repeat (first | (with_reducible first | exact HB.out | apply below_alloc | apply pw_below_drewN | apply below_drew1) | exact HB.out))) : w.heap.size ≤ gb126)); clear HB; have HB := n0_; have BK126 := n1_; have GW126 := n2_; have GE126 := n3_; clear n0_ n1_ n2_ n3_; clear hb hbox hg) | ((with_reducible refine gate_callee (f := 27) rfl ?_); refine goesL_ (some 6) rfl rfl Try.func27 (by kernel_rfl) rfl #[.int .i64 a1] rfl (by (try simp only [List.map_toArray, List.map_cons, List.map_nil]); first | done | rfl | (simp only [List.length_drop, List.length_take]; rfl)) ?_; (with_reducible refine (nums_holds.calls a1 false _ A3.out).mono ?_); rintro e w' ⟨rfl, ⟨nd, rfl⟩⟩; refine ⟨_, rfl, ?_⟩))
    all_goals go_ret
    all_goals exact ⟨by first | rfl | (simp [errW_none, errW_some] <;> rfl) | (simp [*, errW_none, errW_some] <;> rfl), by repeat (first | (with_reducible first | exact HB.out | apply below_alloc | apply pw_below_drewN | apply below_drew1 | refine below_set ?_ GE126.out) | exact HB.out)⟩

/-! ### nums_Set_Has_2: function 15 -/
def nums_Set_Has_2.f (a0_0 : Int) (a0_1 : Int) (a0_2 : Int) (a0_3 : Int) (a1 : Int) : Option (Bool) := (nums_holds.f a1).bind fun t129 => (if t129 = true then (if 0 ≤ (Int.tmod a1 64) then (some ((Go.bits .and .u64 (shr .u64 a0_2 (Int.tmod a1 64)) 1) == 1)) else (none)) else (some false))
set_option maxHeartbeats 80000000 in
set_option maxRecDepth 100000 in
theorem nums_Set_Has_2.calls (a0_0 : Int) (a0_1 : Int) (a0_2 : Int) (a0_3 : Int) (a1 : Int) (r : Bool) (w : World) (h : nums_Set_Has_2.f a0_0 a0_1 a0_2 a0_3 a1 = some r) (hq : wrap64 (Int.tdiv a1 64) = 2) :
    Calls Try.prog 15 #[.agg #[.int .u64 a0_0, .int .u64 a0_1, .int .u64 a0_2, .int .u64 a0_3], .int .i64 a1] w fun e w' => e = .returned (.bool r) ∧ Below w.heap.size w w' := by
  have hu29 := Try.underlying29
  have HB := Aside0.mk (Below.refl w.heap.size w)
  have H : ((nums_holds.f a1).bind fun t129 => (if t129 = true then (if 0 ≤ (Int.tmod a1 64) then (some ((Go.bits .and .u64 (shr .u64 a0_2 (Int.tmod a1 64)) 1) == 1)) else (none)) else (some false))) = some r := h
  clear h
  replace H := Option.bind_eq_some_iff.mp H
  obtain ⟨t129, A30, H⟩ := H
  replace H : (if t129 = true then (if 0 ≤ (Int.tmod a1 64) then (some ((Go.bits .and .u64 (shr .u64 a0_2 (Int.tmod a1 64)) 1) == 1)) else (none)) else (some false)) = some r := H
  have A3 := Aside0.mk A30
  clear A30
  by_cases c4 : t129 = true
  · subst c4
    have H1 : (if 0 ≤ (Int.tmod a1 64) then (some ((Go.bits .and .u64 (shr .u64 a0_2 (Int.tmod a1 64)) 1) == 1)) else (none)) = some r := by rw [if_pos rfl] at H; exact H
    clear H
    have H := H1
    clear H1
    obtain ⟨ji5, hji5⟩ : ∃ j_ : Int, (Int.tmod a1 64) = j_ := ⟨_, rfl⟩
    replace H : (if 0 ≤ (ji5) then (some ((Go.bits .and .u64 (shr .u64 a0_2 (ji5)) 1) == 1)) else (none)) = some r := by first | (rw [hji5] at H; exact H) | (simp only [hji5] at H ⊢; exact H)
    (try rw [hji5] at A3)
    by_cases c6 : 0 ≤ (ji5)
    · rw [if_pos c6] at H
      have c6b0 := eq_true c6
      have c6b1 : decide (0 ≤ (ji5)) = true := decide_eq_true c6
      clear c6
      obtain ⟨ji7, hji7⟩ : ∃ j_ : Int, (shr .u64 a0_2 (ji5)) = j_ := ⟨_, rfl⟩
      replace H : (some ((Go.bits .and .u64 (ji7) 1) == 1)) = some r := by first | (rw [hji7] at H; exact H) | (simp only [hji7] at H ⊢; exact H)
      (try rw [hji7] at A3)
      have hji7_ : (a0_2 / 2 ^ min (ji5).toNat 64) = ji7 := hji7
      have hji7z : (ji5) ≤ 64 → (a0_2 / 2 ^ (ji5).toNat) = ji7 := shr_small hji7
      obtain rfl := Option.some.inj H
      go_enter Try.func15, Try.ntmps15
      go_wp2_with (first | ((with_reducible refine gate_dst (N := 2) rfl ?_); refine box_event ?hg (N := 2) ?hd (cs := #[.int .u64 a0_0, .int .u64 a0_1, .int .u64 a0_2, .int .u64 a0_3]) (t := 29) ?hr ?_; (case hd => rfl); (case hg => rfl); (case hr => first | (go_simp; done) | (go_simp; rfl)); intro gb128 hg w8 hbox hb; have n0_ := Aside0.mk (below_step (by repeat (first | (with_reducible first | exact HB.out | apply below_alloc | apply pw_below_drewN | apply below_drew1) | exact HB.out)) hb); have n1_ := Aside0.mk (hbox); have n2_ := Aside0.mk ((by rw [hg]; exact (below_size (by repeat (first | (with_reducible first | exact HB.out | apply below_alloc | apply pw_below_drewN | apply below_drew1) | exact HB.out))) : w.heap.size ≤ gb128)); have n3_ := Aside0.mk ((by rw [hg]; exact (below_size (by repeat (first | (with_reducible first | exact HB.out | apply below_alloc | apply pw_below_drewN | apply below_drew1) | exact HB.out))) : w.heap.size ≤ gb128)); clear HB; have HB := n0_; have BK128 := n1_; have GW128 := n2_; have GE128 := n3_; clear n0_ n1_ n2_ n3_; clear hb hbox hg) | ((with_reducible refine gate_callee (f := 27) rfl ?_); refine goesL_ (some 6) rfl rfl Try.func27 (by kernel_rfl) rfl #[.int .i64 a1] rfl (by (try simp only [List.map_toArray, List.map_cons, List.map_nil]); first | done | rfl | (simp only [List.length_drop, List.length_take]; rfl)) ?_; (with_reducible refine (nums_holds.calls a1 true _ A3.out).mono ?_); rintro e w' ⟨rfl, ⟨nd, rfl⟩⟩; refine ⟨_, rfl, ?_⟩; have hcz9_0 : w8.cell? ⟨gb128, 0, none⟩ = some (.int .u64 a0_0) := (blk_cell BK128.out 0).trans rfl; have hcz9_1 : w8.cell? ⟨gb128, 1, none⟩ = some (.int .u64 a0_1) := (blk_cell BK128.out 1).trans rfl; have hcz9_2 : w8.cell? ⟨gb128, 2, none⟩ = some (.int .u64 a0_2) := (blk_cell BK128.out 2).trans rfl; have hcz9_3 : w8.cell? ⟨gb128, 3, none⟩ = some (.int .u64 a0_3) := (blk_cell BK128.out 3).trans rfl; have hfz9_0 := blk_frozen BK128.out 0; have hfz9_1 := blk_frozen BK128.out 1; have hfz9_2 := blk_frozen BK128.out 2; have hfz9_3 := blk_frozen BK128.out 3))
      all_goals go_ret
      all_goals exact ⟨by first | rfl | (simp [errW_none, errW_some] <;> rfl) | (simp only [← hji5, ← hji7]; first | rfl | (simp [errW_none, errW_some] <;> rfl)) | (simp [*, errW_none, errW_some] <;> rfl), by repeat (first | (with_reducible first | exact HB.out | apply below_alloc | apply pw_below_drewN | apply below_drew1 | refine below_set ?_ GE128.out) | exact HB.out)⟩
    · rw [if_neg c6] at H
      exact absurd H (by simp)
  · replace c4 := Bool.eq_false_iff.mpr c4
    subst c4
    have H1 : (some false) = some r := by rw [if_neg (show ¬ (false = true) by decide)] at H; exact H
    clear H
    have H := H1
    clear H1
    obtain rfl := Option.some.inj H
    go_enter Try.func15, Try.ntmps15
    go_wp2_with (first | ((with_reducible refine gate_dst (N := 2) rfl ?_); refine box_event ?hg (N := 2) ?hd (cs := #[.int .u64 a0_0, .int .u64 a0_1, .int .u64 a0_2, .int .u64 a0_3]) (t := 29) ?hr ?_; (case hd => rfl); (case hg => rfl); (case hr => first | (go_simp; done) | (go_simp; rfl)); intro gb128 hg w10 hbox hb; have n0_ := Aside0.mk (below_step (by repeat (first | (with_reducible first | exact HB.out | apply below_alloc | apply pw_below_drewN | apply below_drew1) | exact HB.out)) hb); have n1_ := Aside0.mk (hbox); have n2_ := Aside0.mk ((by rw [hg]; exact (below_size (by repeat (first | (with_reducible first | exact HB.out | apply below_alloc | apply pw_below_drewN | apply below_drew1) | exact HB.out))) : w.heap.size ≤ gb128)); have n3_ := Aside0.mk ((by rw [hg]; exact (below_size (by repeat (first | (with_reducible first | exact HB.out | apply below_alloc | apply pw_below_drewN | apply below_drew1) | exact HB.out))) : w.heap.size ≤ gb128)); clear HB; have HB := n0_; have BK128 := n1_; have GW128 := n2_; have GE128 := n3_; clear n0_ n1_ n2_ n3_; clear hb hbox hg) | ((with_reducible refine gate_callee (f := 27) rfl ?_); refine goesL_ (some 6) rfl rfl Try.func27 (by kernel_rfl) rfl #[.int .i64 a1] rfl (by (try simp only [List.map_toArray, List.map_cons, List.map_nil]); first | done | rfl | (simp only [List.length_drop, List.length_take]; rfl)) ?_; (with_reducible refine (nums_holds.calls a1 false _ A3.out).mono ?_); rintro e w' ⟨rfl, ⟨nd, rfl⟩⟩; refine ⟨_, rfl, ?_⟩))
    all_goals go_ret
    all_goals exact ⟨by first | rfl | (simp [errW_none, errW_some] <;> rfl) | (simp [*, errW_none, errW_some] <;> rfl), by repeat (first | (with_reducible first | exact HB.out | apply below_alloc | apply pw_below_drewN | apply below_drew1 | refine below_set ?_ GE128.out) | exact HB.out)⟩

/-! ### nums_Set_Has_3: function 15 -/
def nums_Set_Has_3.f (a0_0 : Int) (a0_1 : Int) (a0_2 : Int) (a0_3 : Int) (a1 : Int) : Option (Bool) := (nums_holds.f a1).bind fun t131 => (if t131 = true then (if 0 ≤ (Int.tmod a1 64) then (some ((Go.bits .and .u64 (shr .u64 a0_3 (Int.tmod a1 64)) 1) == 1)) else (none)) else (some false))
set_option maxHeartbeats 80000000 in
set_option maxRecDepth 100000 in
theorem nums_Set_Has_3.calls (a0_0 : Int) (a0_1 : Int) (a0_2 : Int) (a0_3 : Int) (a1 : Int) (r : Bool) (w : World) (h : nums_Set_Has_3.f a0_0 a0_1 a0_2 a0_3 a1 = some r) (hq : wrap64 (Int.tdiv a1 64) = 3) :
    Calls Try.prog 15 #[.agg #[.int .u64 a0_0, .int .u64 a0_1, .int .u64 a0_2, .int .u64 a0_3], .int .i64 a1] w fun e w' => e = .returned (.bool r) ∧ Below w.heap.size w w' := by
  have hu29 := Try.underlying29
  have HB := Aside0.mk (Below.refl w.heap.size w)
  have H : ((nums_holds.f a1).bind fun t131 => (if t131 = true then (if 0 ≤ (Int.tmod a1 64) then (some ((Go.bits .and .u64 (shr .u64 a0_3 (Int.tmod a1 64)) 1) == 1)) else (none)) else (some false))) = some r := h
  clear h
  replace H := Option.bind_eq_some_iff.mp H
  obtain ⟨t131, A30, H⟩ := H
  replace H : (if t131 = true then (if 0 ≤ (Int.tmod a1 64) then (some ((Go.bits .and .u64 (shr .u64 a0_3 (Int.tmod a1 64)) 1) == 1)) else (none)) else (some false)) = some r := H
  have A3 := Aside0.mk A30
  clear A30
  by_cases c4 : t131 = true
  · subst c4
    have H1 : (if 0 ≤ (Int.tmod a1 64) then (some ((Go.bits .and .u64 (shr .u64 a0_3 (Int.tmod a1 64)) 1) == 1)) else (none)) = some r := by rw [if_pos rfl] at H; exact H
    clear H
    have H := H1
    clear H1
    obtain ⟨ji5, hji5⟩ : ∃ j_ : Int, (Int.tmod a1 64) = j_ := ⟨_, rfl⟩
    replace H : (if 0 ≤ (ji5) then (some ((Go.bits .and .u64 (shr .u64 a0_3 (ji5)) 1) == 1)) else (none)) = some r := by first | (rw [hji5] at H; exact H) | (simp only [hji5] at H ⊢; exact H)
    (try rw [hji5] at A3)
    by_cases c6 : 0 ≤ (ji5)
    · rw [if_pos c6] at H
      have c6b0 := eq_true c6
      have c6b1 : decide (0 ≤ (ji5)) = true := decide_eq_true c6
      clear c6
      obtain ⟨ji7, hji7⟩ : ∃ j_ : Int, (shr .u64 a0_3 (ji5)) = j_ := ⟨_, rfl⟩
      replace H : (some ((Go.bits .and .u64 (ji7) 1) == 1)) = some r := by first | (rw [hji7] at H; exact H) | (simp only [hji7] at H ⊢; exact H)
      (try rw [hji7] at A3)
      have hji7_ : (a0_3 / 2 ^ min (ji5).toNat 64) = ji7 := hji7
      have hji7z : (ji5) ≤ 64 → (a0_3 / 2 ^ (ji5).toNat) = ji7 := shr_small hji7
      obtain rfl := Option.some.inj H
      go_enter Try.func15, Try.ntmps15
      go_wp2_with (first | ((with_reducible refine gate_dst (N := 2) rfl ?_); refine box_event ?hg (N := 2) ?hd (cs := #[.int .u64 a0_0, .int .u64 a0_1, .int .u64 a0_2, .int .u64 a0_3]) (t := 29) ?hr ?_; (case hd => rfl); (case hg => rfl); (case hr => first | (go_simp; done) | (go_simp; rfl)); intro gb130 hg w8 hbox hb; have n0_ := Aside0.mk (below_step (by repeat (first | (with_reducible first | exact HB.out | apply below_alloc | apply pw_below_drewN | apply below_drew1) | exact HB.out)) hb); have n1_ := Aside0.mk (hbox); have n2_ := Aside0.mk ((by rw [hg]; exact (below_size (by repeat (first | (with_reducible first | exact HB.out | apply below_alloc | apply pw_below_drewN | apply below_drew1) | exact HB.out))) : w.heap.size ≤ gb130)); have n3_ := Aside0.mk ((by rw [hg]; exact (below_size (by repeat (first | (with_reducible first | exact HB.out | apply below_alloc | apply pw_below_drewN | apply below_drew1) | exact HB.out))) : w.heap.size ≤ gb130)); clear HB; have HB := n0_; have BK130 := n1_; have GW130 := n2_; have GE130 := n3_; clear n0_ n1_ n2_ n3_; clear hb hbox hg) | ((with_reducible refine gate_callee (f := 27) rfl ?_); refine goesL_ (some 6) rfl rfl Try.func27 (by kernel_rfl) rfl #[.int .i64 a1] rfl (by (try simp only [List.map_toArray, List.map_cons, List.map_nil]); first | done | rfl | (simp only [List.length_drop, List.length_take]; rfl)) ?_; (with_reducible refine (nums_holds.calls a1 true _ A3.out).mono ?_); rintro e w' ⟨rfl, ⟨nd, rfl⟩⟩; refine ⟨_, rfl, ?_⟩; have hcz9_0 : w8.cell? ⟨gb130, 0, none⟩ = some (.int .u64 a0_0) := (blk_cell BK130.out 0).trans rfl; have hcz9_1 : w8.cell? ⟨gb130, 1, none⟩ = some (.int .u64 a0_1) := (blk_cell BK130.out 1).trans rfl; have hcz9_2 : w8.cell? ⟨gb130, 2, none⟩ = some (.int .u64 a0_2) := (blk_cell BK130.out 2).trans rfl; have hcz9_3 : w8.cell? ⟨gb130, 3, none⟩ = some (.int .u64 a0_3) := (blk_cell BK130.out 3).trans rfl; have hfz9_0 := blk_frozen BK130.out 0; have hfz9_1 := blk_frozen BK130.out 1; have hfz9_2 := blk_frozen BK130.out 2; have hfz9_3 := blk_frozen BK130.out 3))
      all_goals go_ret
      all_goals exact ⟨by first | rfl | (simp [errW_none, errW_some] <;> rfl) | (simp only [← hji5, ← hji7]; first | rfl | (simp [errW_none, errW_some] <;> rfl)) | (simp [*, errW_none, errW_some] <;> rfl), by repeat (first | (with_reducible first | exact HB.out | apply below_alloc | apply pw_below_drewN | apply below_drew1 | refine below_set ?_ GE130.out) | exact HB.out)⟩
    · rw [if_neg c6] at H
      exact absurd H (by simp)
  · replace c4 := Bool.eq_false_iff.mpr c4
    subst c4
    have H1 : (some false) = some r := by rw [if_neg (show ¬ (false = true) by decide)] at H; exact H
    clear H
    have H := H1
    clear H1
    obtain rfl := Option.some.inj H
    go_enter Try.func15, Try.ntmps15
    go_wp2_with (first | ((with_reducible refine gate_dst (N := 2) rfl ?_); refine box_event ?hg (N := 2) ?hd (cs := #[.int .u64 a0_0, .int .u64 a0_1, .int .u64 a0_2, .int .u64 a0_3]) (t := 29) ?hr ?_; (case hd => rfl); (case hg => rfl); (case hr => first | (go_simp; done) | (go_simp; rfl)); intro gb130 hg w10 hbox hb; have n0_ := Aside0.mk (below_step (by repeat (first | (with_reducible first | exact HB.out | apply below_alloc | apply pw_below_drewN | apply below_drew1) | exact HB.out)) hb); have n1_ := Aside0.mk (hbox); have n2_ := Aside0.mk ((by rw [hg]; exact (below_size (by repeat (first | (with_reducible first | exact HB.out | apply below_alloc | apply pw_below_drewN | apply below_drew1) | exact HB.out))) : w.heap.size ≤ gb130)); have n3_ := Aside0.mk ((by rw [hg]; exact (below_size (by repeat (first | (with_reducible first | exact HB.out | apply below_alloc | apply pw_below_drewN | apply below_drew1) | exact HB.out))) : w.heap.size ≤ gb130)); clear HB; have HB := n0_; have BK130 := n1_; have GW130 := n2_; have GE130 := n3_; clear n0_ n1_ n2_ n3_; clear hb hbox hg) | ((with_reducible refine gate_callee (f := 27) rfl ?_); refine goesL_ (some 6) rfl rfl Try.func27 (by kernel_rfl) rfl #[.int .i64 a1] rfl (by (try simp only [List.map_toArray, List.map_cons, List.map_nil]); first | done | rfl | (simp only [List.length_drop, List.length_take]; rfl)) ?_; (with_reducible refine (nums_holds.calls a1 false _ A3.out).mono ?_); rintro e w' ⟨rfl, ⟨nd, rfl⟩⟩; refine ⟨_, rfl, ?_⟩))
    all_goals go_ret
    all_goals exact ⟨by first | rfl | (simp [errW_none, errW_some] <;> rfl) | (simp [*, errW_none, errW_some] <;> rfl), by repeat (first | (with_reducible first | exact HB.out | apply below_alloc | apply pw_below_drewN | apply below_drew1 | refine below_set ?_ GE130.out) | exact HB.out)⟩

/-! ### nums_Set_Has_N: function 15 -/
def nums_Set_Has_N.f (a0_0 : Int) (a0_1 : Int) (a0_2 : Int) (a0_3 : Int) (a1 : Int) : Option (Bool) := (nums_holds.f a1).bind fun t125 => (if t125 = true then (if 0 ≤ (Int.tmod a1 64) then (some ((Go.bits .and .u64 (shr .u64 a0_0 (Int.tmod a1 64)) 1) == 1)) else (none)) else (some false))
set_option maxHeartbeats 80000000 in
set_option maxRecDepth 100000 in
theorem nums_Set_Has_N.calls (a0_0 : Int) (a0_1 : Int) (a0_2 : Int) (a0_3 : Int) (a1 : Int) (r : Bool) (w : World) (h : nums_Set_Has_N.f a0_0 a0_1 a0_2 a0_3 a1 = some r) (hq : nums_holds.f a1 = some false) :
    Calls Try.prog 15 #[.agg #[.int .u64 a0_0, .int .u64 a0_1, .int .u64 a0_2, .int .u64 a0_3], .int .i64 a1] w fun e w' => e = .returned (.bool r) ∧ Below w.heap.size w w' := by
  have hu29 := Try.underlying29
  have HB := Aside0.mk (Below.refl w.heap.size w)
  have H : ((nums_holds.f a1).bind fun t125 => (if t125 = true then (if 0 ≤ (Int.tmod a1 64) then (some ((Go.bits .and .u64 (shr .u64 a0_0 (Int.tmod a1 64)) 1) == 1)) else (none)) else (some false))) = some r := h
  clear h
  replace H := Option.bind_eq_some_iff.mp H
  obtain ⟨t125, A30, H⟩ := H
  replace H : (if t125 = true then (if 0 ≤ (Int.tmod a1 64) then (some ((Go.bits .and .u64 (shr .u64 a0_0 (Int.tmod a1 64)) 1) == 1)) else (none)) else (some false)) = some r := H
  have A3 := Aside0.mk A30
  clear A30
  by_cases c4 : t125 = true
  · subst c4
    exact absurd (hq.symm.trans A3.out) (by simp)
  · replace c4 := Bool.eq_false_iff.mpr c4
    subst c4
    have H1 : (some false) = some r := by rw [if_neg (show ¬ (false = true) by decide)] at H; exact H
    clear H
    have H := H1
    clear H1
    obtain rfl := Option.some.inj H
    go_enter Try.func15, Try.ntmps15
    go_wp2_with (first | ((with_reducible refine gate_dst (N := 2) rfl ?_); refine box_event ?hg (N := 2) ?hd (cs := #[.int .u64 a0_0, .int .u64 a0_1, .int .u64 a0_2, .int .u64 a0_3]) (t := 29) ?hr ?_; (case hd => rfl); (case hg => rfl); (case hr => first | (go_simp; done) | (go_simp; rfl)); intro gb124 hg w10 hbox hb; have n0_ := Aside0.mk (below_step (by repeat (first | (with_reducible first | exact HB.out | apply below_alloc | apply pw_below_drewN | apply below_drew1) | exact HB.out)) hb); have n1_ := Aside0.mk (hbox); have n2_ := Aside0.mk ((by rw [hg]; exact (below_size (by repeat (first | (with_reducible first | exact HB.out | apply below_alloc | apply pw_below_drewN | apply below_drew1) | exact HB.out))) : w.heap.size ≤ gb124)); have n3_ := Aside0.mk ((by rw [hg]; exact (below_size (by repeat (first | (with_reducible first | exact HB.out | apply below_alloc | apply pw_below_drewN | apply below_drew1) | exact HB.out))) : w.heap.size ≤ gb124)); clear HB; have HB := n0_; have BK124 := n1_; have GW124 := n2_; have GE124 := n3_; clear n0_ n1_ n2_ n3_; clear hb hbox hg) | ((with_reducible refine gate_callee (f := 27) rfl ?_); refine goesL_ (some 6) rfl rfl Try.func27 (by kernel_rfl) rfl #[.int .i64 a1] rfl (by (try simp only [List.map_toArray, List.map_cons, List.map_nil]); first | done | rfl | (simp only [List.length_drop, List.length_take]; rfl)) ?_; (with_reducible refine (nums_holds.calls a1 false _ A3.out).mono ?_); rintro e w' ⟨rfl, ⟨nd, rfl⟩⟩; refine ⟨_, rfl, ?_⟩))
    all_goals go_ret
    all_goals exact ⟨by first | rfl | (simp [errW_none, errW_some] <;> rfl) | (simp [*, errW_none, errW_some] <;> rfl), by repeat (first | (with_reducible first | exact HB.out | apply below_alloc | apply pw_below_drewN | apply below_drew1 | refine below_set ?_ GE124.out) | exact HB.out)⟩

/-! ### nums_Set_Has: function 15 -/
def nums_Set_Has.f (a0_0 : Int) (a0_1 : Int) (a0_2 : Int) (a0_3 : Int) (a1 : Int) : Option (Bool) := if nums_holds.f a1 = some true then (if wrap64 (Int.tdiv a1 64) = 0 then nums_Set_Has_0.f a0_0 a0_1 a0_2 a0_3 a1 else if wrap64 (Int.tdiv a1 64) = 1 then nums_Set_Has_1.f a0_0 a0_1 a0_2 a0_3 a1 else if wrap64 (Int.tdiv a1 64) = 2 then nums_Set_Has_2.f a0_0 a0_1 a0_2 a0_3 a1 else nums_Set_Has_3.f a0_0 a0_1 a0_2 a0_3 a1) else nums_Set_Has_N.f a0_0 a0_1 a0_2 a0_3 a1
theorem nums_Set_Has.calls (a0_0 : Int) (a0_1 : Int) (a0_2 : Int) (a0_3 : Int) (a1 : Int) (r : Bool) (w : World) (h : nums_Set_Has.f a0_0 a0_1 a0_2 a0_3 a1 = some r) :
    Calls Try.prog 15 #[.agg #[.int .u64 a0_0, .int .u64 a0_1, .int .u64 a0_2, .int .u64 a0_3], .int .i64 a1] w fun e w' => e = .returned (.bool r) ∧ Below w.heap.size w w' := by
  unfold nums_Set_Has.f at h
  by_cases c : nums_holds.f a1 = some true
  · rw [if_pos c] at h
    by_cases c0 : wrap64 (Int.tdiv a1 64) = 0
    · rw [if_pos c0] at h; exact nums_Set_Has_0.calls a0_0 a0_1 a0_2 a0_3 a1 r w h c0
    rw [if_neg c0] at h
    by_cases c1 : wrap64 (Int.tdiv a1 64) = 1
    · rw [if_pos c1] at h; exact nums_Set_Has_1.calls a0_0 a0_1 a0_2 a0_3 a1 r w h c1
    rw [if_neg c1] at h
    by_cases c2 : wrap64 (Int.tdiv a1 64) = 2
    · rw [if_pos c2] at h; exact nums_Set_Has_2.calls a0_0 a0_1 a0_2 a0_3 a1 r w h c2
    rw [if_neg c2] at h
    have c3 : wrap64 (Int.tdiv a1 64) = 3 := by
      unfold nums_holds.f at c
      split at c
      · rename_i hp
        have hl : a1 < 256 := by simpa using c
        have he : Int.tdiv a1 64 = a1 / 64 := Int.tdiv_eq_ediv_of_nonneg hp
        rw [he] at c0 c1 c2 ⊢
        unfold wrap64 at *
        omega
      · simp at c
    exact nums_Set_Has_3.calls a0_0 a0_1 a0_2 a0_3 a1 r w h c3
  · rw [if_neg c] at h
    have cn : nums_holds.f a1 = some false := by
      unfold nums_holds.f at c ⊢
      split at c
      · rename_i hp; rw [if_pos hp]; cases hb : decide (a1 < 256) with
        | true => rw [hb] at c; exact absurd rfl c
        | false => rfl
      · rename_i hp; rw [if_neg hp]
    exact nums_Set_Has_N.calls a0_0 a0_1 a0_2 a0_3 a1 r w h cn

/-! ### nums_Set_Next: function 14 -/
def nums_Set_Next.l0 : Nat → Int → Int → Int → Int → Int → Option (Int)
  | 0, _, _, _, _, _ => none
  | k + 1, x5, x133000, x133001, x133002, x133003 => if x5 < 256 then ((nums_Set_Has.f x133000 x133001 x133002 x133003 x5).bind fun t133 => (if t133 = true then (some x5) else (nums_Set_Next.l0 k (wrap64 (x5 + 1)) x133000 x133001 x133002 x133003))) else (some (-1))
def nums_Set_Next.f (k : Nat) (a0_0 : Int) (a0_1 : Int) (a0_2 : Int) (a0_3 : Int) (a1 : Int) : Option (Int) := nums_Set_Next.l0 k (mx a1 0) a0_0 a0_1 a0_2 a0_3
theorem nums_Set_Next.mono_l : ∀ k, (∀ y0 y1 y2 y3 y4, LeO (nums_Set_Next.l0 k y0 y1 y2 y3 y4) (nums_Set_Next.l0 (k + 1) y0 y1 y2 y3 y4))
  | 0 => fun _ _ _ _ _ r h => by simp [nums_Set_Next.l0] at h
  | k + 1 => by
    have ih0 := nums_Set_Next.mono_l k
    · intro y0 y1 y2 y3 y4
      unfold nums_Set_Next.l0
      repeat' first
      | (with_reducible exact ih0 _ _ _ _ _)
      | (with_reducible exact LeO.refl _)
      | (with_reducible exact LeO.none _)
      | (with_reducible refine LeO.ite ?_ ?_)
      | (with_reducible refine LeO.bind ?_ (fun _ => ?_))
      | exact ih0 _ _ _ _ _
      | exact LeO.none _
      | refine LeO.ite ?_ ?_
      | refine LeO.bind ?_ (fun _ => ?_)
theorem nums_Set_Next.mono : ∀ a0 a1 a2 a3 a4 k, LeO (nums_Set_Next.f k a0 a1 a2 a3 a4) (nums_Set_Next.f (k + 1) a0 a1 a2 a3 a4) := by
  intro a0 a1 a2 a3 a4 k
  have ih0 := nums_Set_Next.mono_l k
  unfold nums_Set_Next.f
  repeat' first
      | (with_reducible exact ih0 _ _ _ _ _)
      | (with_reducible exact LeO.refl _)
      | (with_reducible exact LeO.none _)
      | (with_reducible refine LeO.ite ?_ ?_)
      | (with_reducible refine LeO.bind ?_ (fun _ => ?_))
      | exact ih0 _ _ _ _ _
      | exact LeO.none _
      | refine LeO.ite ?_ ?_
      | refine LeO.bind ?_ (fun _ => ?_)
set_option maxHeartbeats 80000000 in
set_option maxRecDepth 100000 in
theorem nums_Set_Next.calls (k : Nat) (a0_0 : Int) (a0_1 : Int) (a0_2 : Int) (a0_3 : Int) (a1 : Int) (r : Int) (w : World) (h : nums_Set_Next.f k a0_0 a0_1 a0_2 a0_3 a1 = some r) :
    Calls Try.prog 14 #[.agg #[.int .u64 a0_0, .int .u64 a0_1, .int .u64 a0_2, .int .u64 a0_3], .int .i64 a1] w fun e w' => e = .returned (.int .i64 r) ∧ Below w.heap.size w w' := by
  have hu29 := Try.underlying29
  have HB := Aside0.mk (Below.refl w.heap.size w)
  have H : (nums_Set_Next.l0 k (mx a1 0) a0_0 a0_1 a0_2 a0_3) = some r := h
  clear h
  obtain ⟨ji3, hji3⟩ : ∃ j_ : Int, (mx a1 0) = j_ := ⟨_, rfl⟩
  replace H : (nums_Set_Next.l0 k ji3 a0_0 a0_1 a0_2 a0_3) = some r := by first | (rw [hji3] at H; exact H) | (simp only [hji3] at H ⊢; exact H)
  (try (have hji3l : 0 ≤ ji3 := by (rw [← hji3]; unfold mx; (repeat' split) <;> omega)))
  (try (have hji3m : 0 ≤ ji3 := by omega))
  have hji3_ : (if a1 < 0 then 0 else a1) = ji3 := hji3
  have H' := Aside0.mk H
  clear H
  go_enter Try.func14, Try.ntmps14
  go_wp2_with (first | ((with_reducible refine gate_dst (N := 2) rfl ?_); refine box_event ?hg (N := 2) ?hd (cs := #[.int .u64 a0_0, .int .u64 a0_1, .int .u64 a0_2, .int .u64 a0_3]) (t := 29) ?hr ?_; (case hd => rfl); (case hg => rfl); (case hr => first | (go_simp; done) | (go_simp; rfl)); intro gb132 hg w4 hbox hb; have n0_ := Aside0.mk (below_step (by repeat (first | (with_reducible first | exact HB.out | apply below_alloc | apply pw_below_drewN | apply below_drew1) | exact HB.out)) hb); have n1_ := Aside0.mk (hbox); have n2_ := Aside0.mk ((by rw [hg]; exact (below_size (by repeat (first | (with_reducible first | exact HB.out | apply below_alloc | apply pw_below_drewN | apply below_drew1) | exact HB.out))) : w.heap.size ≤ gb132)); have n3_ := Aside0.mk ((by rw [hg]; exact (below_size (by repeat (first | (with_reducible first | exact HB.out | apply below_alloc | apply pw_below_drewN | apply below_drew1) | exact HB.out))) : w.heap.size ≤ gb132)); clear HB; have HB := n0_; have BK132 := n1_; have GW132 := n2_; have GE132 := n3_; clear n0_ n1_ n2_ n3_; clear hb hbox hg))
  go_loopg [5] k (fun kq v5 w' => ∃ (x5_1 : Int), v5 = .int .i64 x5_1 ∧ Aside0 (nums_Set_Next.l0 kq x5_1 a0_0 a0_1 a0_2 a0_3 = some r) ∧ Aside0 (kq ≤ k) ∧ Aside0 (w'.heap[gb132]? = some (.cells #[.int .u64 a0_0, .int .u64 a0_1, .int .u64 a0_2, .int .u64 a0_3] 29 (0, 0))) ∧ Aside0 (Below w.heap.size w w'))
  case atStart => exact ⟨(ji3), (by first | rfl | (simp; done) | (simp only [← hji3] <;> (first | rfl | simp)) | (simp [*]; done)), H', ⟨Nat.le_refl _⟩, ⟨by (with_reducible repeat (first | refine blk_drewN ?_ _ | refine blk_drew ?_ | refine blk_alloc ?_ _)); exact BK132.out⟩, ⟨by repeat (first | (with_reducible first | exact HB.out | apply below_alloc | apply pw_below_drewN | apply below_drew1 | refine below_set ?_ GE132.out) | exact HB.out)⟩⟩
  case round =>
    clear H'
    try clear c1
    try clear p2
    obtain ⟨x5_1, rfl, HA, HK1, BK132, HB⟩ := hrel
    cases gk with
    | zero => exact absurd HA.out (by simp [nums_Set_Next.l0])
    | succ k1 =>
      have H := HA.out
      clear HA
      simp only [nums_Set_Next.l0] at H
      by_cases c5 : x5_1 < 256
      · rw [if_pos c5] at H
        have c5b0 : decide (x5_1 < 256) = true := decide_eq_true c5
        clear c5
        replace H := Option.bind_eq_some_iff.mp H
        obtain ⟨t133, A60, H⟩ := H
        replace H : (if t133 = true then (some x5_1) else (nums_Set_Next.l0 k1 (wrap64 (x5_1 + 1)) a0_0 a0_1 a0_2 a0_3)) = some r := H
        have A6 := Aside0.mk A60
        clear A60
        by_cases c7 : t133 = true
        · subst c7
          have H1 : (some x5_1) = some r := by rw [if_pos rfl] at H; exact H
          clear H
          have H := H1
          clear H1
          obtain rfl := Option.some.inj H
          have hcz8_0 : wr.cell? ⟨gb132, 0, none⟩ = some (.int .u64 a0_0) := (blk_cell BK132.out 0).trans rfl
          have hcz8_1 : wr.cell? ⟨gb132, 1, none⟩ = some (.int .u64 a0_1) := (blk_cell BK132.out 1).trans rfl
          have hcz8_2 : wr.cell? ⟨gb132, 2, none⟩ = some (.int .u64 a0_2) := (blk_cell BK132.out 2).trans rfl
          have hcz8_3 : wr.cell? ⟨gb132, 3, none⟩ = some (.int .u64 a0_3) := (blk_cell BK132.out 3).trans rfl
          have hfz8_0 := blk_frozen BK132.out 0
          have hfz8_1 := blk_frozen BK132.out 1
          have hfz8_2 := blk_frozen BK132.out 2
          have hfz8_3 := blk_frozen BK132.out 3
          go_wp2_with (first | ((with_reducible refine gate_callee (f := 15) rfl ?_); refine goesL_ (some 14) rfl rfl Try.func15 (by kernel_rfl) rfl #[.agg #[.int .u64 a0_0, .int .u64 a0_1, .int .u64 a0_2, .int .u64 a0_3], .int .i64 x5_1] rfl (by (try simp only [List.map_toArray, List.map_cons, List.map_nil]); first | done | rfl | (simp only [List.length_drop, List.length_take]; rfl)) ?_; (with_reducible refine (nums_Set_Has.calls a0_0 a0_1 a0_2 a0_3 x5_1 true _ A6.out).mono ?_); rintro e w9 ⟨rfl, hb⟩; refine ⟨_, rfl, ?_⟩; have n0_ := Aside0.mk (blk_below (g := gb132) (o := .cells #[.int .u64 a0_0, .int .u64 a0_1, .int .u64 a0_2, .int .u64 a0_3] 29 (0, 0)) (by (with_reducible repeat (first | refine blk_drewN ?_ _ | refine blk_drew ?_ | refine blk_alloc ?_ _)); exact BK132.out) hb); have n1_ := Aside0.mk (below_step (by repeat (first | (with_reducible first | exact HB.out | apply below_alloc | apply pw_below_drewN | apply below_drew1 | refine below_set ?_ GE132.out) | exact HB.out)) hb); clear BK132; clear HB; have BK132 := n0_; have HB := n1_; clear n0_ n1_; (try clear hb); (try clear hb2); (try clear hk); (try clear hi)))
          all_goals go_ret
          all_goals exact ⟨by first | rfl | (simp [errW_none, errW_some] <;> rfl) | (simp only [← hji3]; first | rfl | (simp [errW_none, errW_some] <;> rfl)) | (simp [*, errW_none, errW_some] <;> rfl), by repeat (first | (with_reducible first | exact HB.out | apply below_alloc | apply pw_below_drewN | apply below_drew1 | refine below_set ?_ GE132.out) | exact HB.out)⟩
        · replace c7 := Bool.eq_false_iff.mpr c7
          subst c7
          have H1 : (nums_Set_Next.l0 k1 (wrap64 (x5_1 + 1)) a0_0 a0_1 a0_2 a0_3) = some r := by rw [if_neg (show ¬ (false = true) by decide)] at H; exact H
          clear H
          have H := H1
          clear H1
          have H' := Aside0.mk H
          clear H
          have hcz10_0 : wr.cell? ⟨gb132, 0, none⟩ = some (.int .u64 a0_0) := (blk_cell BK132.out 0).trans rfl
          have hcz10_1 : wr.cell? ⟨gb132, 1, none⟩ = some (.int .u64 a0_1) := (blk_cell BK132.out 1).trans rfl
          have hcz10_2 : wr.cell? ⟨gb132, 2, none⟩ = some (.int .u64 a0_2) := (blk_cell BK132.out 2).trans rfl
          have hcz10_3 : wr.cell? ⟨gb132, 3, none⟩ = some (.int .u64 a0_3) := (blk_cell BK132.out 3).trans rfl
          have hfz10_0 := blk_frozen BK132.out 0
          have hfz10_1 := blk_frozen BK132.out 1
          have hfz10_2 := blk_frozen BK132.out 2
          have hfz10_3 := blk_frozen BK132.out 3
          go_wp2_with (first | ((with_reducible refine gate_callee (f := 15) rfl ?_); refine goesL_ (some 14) rfl rfl Try.func15 (by kernel_rfl) rfl #[.agg #[.int .u64 a0_0, .int .u64 a0_1, .int .u64 a0_2, .int .u64 a0_3], .int .i64 x5_1] rfl (by (try simp only [List.map_toArray, List.map_cons, List.map_nil]); first | done | rfl | (simp only [List.length_drop, List.length_take]; rfl)) ?_; (with_reducible refine (nums_Set_Has.calls a0_0 a0_1 a0_2 a0_3 x5_1 false _ A6.out).mono ?_); rintro e w11 ⟨rfl, hb⟩; refine ⟨_, rfl, ?_⟩; have n0_ := Aside0.mk (blk_below (g := gb132) (o := .cells #[.int .u64 a0_0, .int .u64 a0_1, .int .u64 a0_2, .int .u64 a0_3] 29 (0, 0)) (by (with_reducible repeat (first | refine blk_drewN ?_ _ | refine blk_drew ?_ | refine blk_alloc ?_ _)); exact BK132.out) hb); have n1_ := Aside0.mk (below_step (by repeat (first | (with_reducible first | exact HB.out | apply below_alloc | apply pw_below_drewN | apply below_drew1 | refine below_set ?_ GE132.out) | exact HB.out)) hb); clear BK132; clear HB; have BK132 := n0_; have HB := n1_; clear n0_ n1_; (try clear hb); (try clear hb2); (try clear hk); (try clear hi)))
          go_roundg k1
          case measure => have := HK1.out; omega
          case rel => exact ⟨(wrap64 (x5_1 + 1)), (by first | rfl | (simp; done) | (simp [*]; done)), H', ⟨by have := HK1.out; omega⟩, ⟨by (with_reducible repeat (first | refine blk_drewN ?_ _ | refine blk_drew ?_ | refine blk_alloc ?_ _)); exact BK132.out⟩, ⟨by repeat (first | (with_reducible first | exact HB.out | apply below_alloc | apply pw_below_drewN | apply below_drew1 | refine below_set ?_ GE132.out) | exact HB.out)⟩⟩
      · rw [if_neg c5] at H
        have c5b0 : decide (x5_1 < 256) = false := decide_eq_false c5
        clear c5
        obtain rfl := Option.some.inj H
        go_wp2
        all_goals go_ret
        all_goals exact ⟨by first | rfl | (simp [errW_none, errW_some] <;> rfl) | (simp only [← hji3]; first | rfl | (simp [errW_none, errW_some] <;> rfl)) | (simp [*, errW_none, errW_some] <;> rfl), by repeat (first | (with_reducible first | exact HB.out | apply below_alloc | apply pw_below_drewN | apply below_drew1 | refine below_set ?_ GE132.out) | exact HB.out)⟩

/-! ### nums_Set_Count: function 16 -/
def nums_Set_Count.w : Nat → Int → Int → Option Int
  | 0, _, _ => none
  | k + 1, n, x => if x = 0 then some n else nums_Set_Count.w k (wrap64 (n + 1)) (Go.bits .and .u64 x (IntKind.u64.wrap (x - 1)))
def nums_Set_Count.f (k : Nat) (a0_0 : Int) (a0_1 : Int) (a0_2 : Int) (a0_3 : Int) : Option Int := (nums_Set_Count.w k 0 a0_0).bind fun n0 => (nums_Set_Count.w k n0 a0_1).bind fun n1 => (nums_Set_Count.w k n1 a0_2).bind fun n2 => nums_Set_Count.w k n2 a0_3
theorem nums_Set_Count.mono_w : ∀ k n x, LeO (nums_Set_Count.w k n x) (nums_Set_Count.w (k + 1) n x)
  | 0 => fun _ _ r h => by simp [nums_Set_Count.w] at h
  | k + 1 => by
    intro n x
    unfold nums_Set_Count.w
    exact LeO.ite (LeO.refl _) (nums_Set_Count.mono_w k _ _)
theorem nums_Set_Count.mono : ∀ a0_0 a0_1 a0_2 a0_3 k, LeO (nums_Set_Count.f k a0_0 a0_1 a0_2 a0_3) (nums_Set_Count.f (k + 1) a0_0 a0_1 a0_2 a0_3) := by
  intro a0_0 a0_1 a0_2 a0_3 k
  unfold nums_Set_Count.f
  exact LeO.bind (nums_Set_Count.mono_w k _ _) (fun _ => LeO.bind (nums_Set_Count.mono_w k _ _) (fun _ => LeO.bind (nums_Set_Count.mono_w k _ _) (fun _ => nums_Set_Count.mono_w k _ _)))
set_option maxHeartbeats 80000000 in
set_option maxRecDepth 100000 in
theorem nums_Set_Count.calls (k : Nat) (a0_0 : Int) (a0_1 : Int) (a0_2 : Int) (a0_3 : Int) (r : Int) (w : World) (h : nums_Set_Count.f k a0_0 a0_1 a0_2 a0_3 = some r) :
    Calls Try.prog 16 #[.agg #[.int .u64 a0_0, .int .u64 a0_1, .int .u64 a0_2, .int .u64 a0_3]] w fun e w' => e = .returned (.int .i64 r) ∧ Below w.heap.size w w' := by
  have HB := Aside0.mk (Below.refl w.heap.size w)
  unfold nums_Set_Count.f at h
  obtain ⟨n0, A0, h⟩ := Option.bind_eq_some_iff.mp h
  obtain ⟨n1, A1, h⟩ := Option.bind_eq_some_iff.mp h
  obtain ⟨n2, A2, h⟩ := Option.bind_eq_some_iff.mp h
  have H0 := Aside0.mk A0
  have H1 := Aside0.mk A1
  have H2 := Aside0.mk A2
  have H3 := Aside0.mk h
  clear A0 A1 A2 h
  have hx_0 : ∀ u : World, (Instr.index 27 (.agg #[.int .u64 a0_0, .int .u64 a0_1, .int .u64 a0_2, .int .u64 a0_3]) (.int .i64 0)).run Try.prog u = Result.ok (Value.int .u64 a0_0) u := fun u => by kernel_rfl
  have hx_1 : ∀ u : World, (Instr.index 27 (.agg #[.int .u64 a0_0, .int .u64 a0_1, .int .u64 a0_2, .int .u64 a0_3]) (.int .i64 1)).run Try.prog u = Result.ok (Value.int .u64 a0_1) u := fun u => by kernel_rfl
  have hx_2 : ∀ u : World, (Instr.index 27 (.agg #[.int .u64 a0_0, .int .u64 a0_1, .int .u64 a0_2, .int .u64 a0_3]) (.int .i64 2)).run Try.prog u = Result.ok (Value.int .u64 a0_2) u := fun u => by kernel_rfl
  have hx_3 : ∀ u : World, (Instr.index 27 (.agg #[.int .u64 a0_0, .int .u64 a0_1, .int .u64 a0_2, .int .u64 a0_3]) (.int .i64 3)).run Try.prog u = Result.ok (Value.int .u64 a0_3) u := fun u => by kernel_rfl
  go_enter Try.func16, Try.ntmps16
  go_wp2_with (first | ((with_reducible refine gate_dst (N := 1) rfl ?_); refine box_event ?hg (N := 1) ?hd (cs := #[.int .u64 a0_0, .int .u64 a0_1, .int .u64 a0_2, .int .u64 a0_3]) (t := 29) ?hr ?_; (case hd => rfl); (case hg => rfl); (case hr => first | (go_simp; done) | (go_simp; rfl)); intro gb1 hg w1 hbox hb; have n0_ := Aside0.mk (below_step (by repeat (first | (with_reducible first | exact HB.out | apply below_alloc | apply pw_below_drewN | apply below_drew1) | exact HB.out)) hb); have n1_ := Aside0.mk (hbox); have n2_ := Aside0.mk ((by rw [hg]; exact (below_size (by repeat (first | (with_reducible first | exact HB.out | apply below_alloc | apply pw_below_drewN | apply below_drew1) | exact HB.out))) : w.heap.size ≤ gb1)); have n3_ := Aside0.mk ((by rw [hg]; exact (below_size (by repeat (first | (with_reducible first | exact HB.out | apply below_alloc | apply pw_below_drewN | apply below_drew1) | exact HB.out))) : w.heap.size ≤ gb1)); clear HB; have HB := n0_; have BK1 := n1_; have GW1 := n2_; have GE1 := n3_; clear n0_ n1_ n2_ n3_; clear hb hbox hg; have hcz1_0 : w1.cell? ⟨gb1, 0, none⟩ = some (.int .u64 a0_0) := (blk_cell BK1.out 0).trans rfl; have hcz1_1 : w1.cell? ⟨gb1, 1, none⟩ = some (.int .u64 a0_1) := (blk_cell BK1.out 1).trans rfl; have hcz1_2 : w1.cell? ⟨gb1, 2, none⟩ = some (.int .u64 a0_2) := (blk_cell BK1.out 2).trans rfl; have hcz1_3 : w1.cell? ⟨gb1, 3, none⟩ = some (.int .u64 a0_3) := (blk_cell BK1.out 3).trans rfl))
  refine wp_loop_rounds 5 ?_
  rw [rounds_succ]
  go_wp2
  go_loopg [3, 5] k (fun kq v3 v5 w' => ∃ (n : Int) (x : Int), v3 = .int .i64 n ∧ v5 = .int .u64 x ∧ Aside0 (nums_Set_Count.w kq n x = some n0) ∧ Aside0 (kq ≤ k) ∧ w1 = w')
  case atStart => exact ⟨0, a0_0, by first | rfl | (simp; done) | (simp [*]; done), by first | rfl | (simp; done) | (simp [*]; done), H0, ⟨Nat.le_refl _⟩, rfl⟩
  case round =>
    obtain ⟨n_0, x_0, rfl, rfl, HA, HK0, rfl⟩ := hrel
    cases gk with
    | zero => exact absurd HA.out (by simp [nums_Set_Count.w])
    | succ k0 =>
      have H := HA.out
      clear HA
      simp only [nums_Set_Count.w] at H
      by_cases c : x_0 = 0
      · rw [if_pos c] at H
        subst c
        obtain rfl := (Option.some.inj H).symm
        clear H HK0
        go_wp2
        rw [rounds_succ]
        go_wp2
        go_loopg [3, 5] k (fun kq v3 v5 w' => ∃ (n : Int) (x : Int), v3 = .int .i64 n ∧ v5 = .int .u64 x ∧ Aside0 (nums_Set_Count.w kq n x = some n1) ∧ Aside0 (kq ≤ k) ∧ w1 = w')
        case atStart => exact ⟨n0, a0_1, by first | rfl | (simp; done) | (simp [*]; done), by first | rfl | (simp; done) | (simp [*]; done), H1, ⟨Nat.le_refl _⟩, rfl⟩
        case round =>
          obtain ⟨n_1, x_1, rfl, rfl, HA, HK1, rfl⟩ := hrel
          cases gk with
          | zero => exact absurd HA.out (by simp [nums_Set_Count.w])
          | succ k1 =>
            have H := HA.out
            clear HA
            simp only [nums_Set_Count.w] at H
            by_cases c : x_1 = 0
            · rw [if_pos c] at H
              subst c
              obtain rfl := (Option.some.inj H).symm
              clear H HK1
              go_wp2
              rw [rounds_succ]
              go_wp2
              go_loopg [3, 5] k (fun kq v3 v5 w' => ∃ (n : Int) (x : Int), v3 = .int .i64 n ∧ v5 = .int .u64 x ∧ Aside0 (nums_Set_Count.w kq n x = some n2) ∧ Aside0 (kq ≤ k) ∧ w1 = w')
              case atStart => exact ⟨n1, a0_2, by first | rfl | (simp; done) | (simp [*]; done), by first | rfl | (simp; done) | (simp [*]; done), H2, ⟨Nat.le_refl _⟩, rfl⟩
              case round =>
                obtain ⟨n_2, x_2, rfl, rfl, HA, HK2, rfl⟩ := hrel
                cases gk with
                | zero => exact absurd HA.out (by simp [nums_Set_Count.w])
                | succ k2 =>
                  have H := HA.out
                  clear HA
                  simp only [nums_Set_Count.w] at H
                  by_cases c : x_2 = 0
                  · rw [if_pos c] at H
                    subst c
                    obtain rfl := (Option.some.inj H).symm
                    clear H HK2
                    go_wp2
                    rw [rounds_succ]
                    go_wp2
                    go_loopg [3, 5] k (fun kq v3 v5 w' => ∃ (n : Int) (x : Int), v3 = .int .i64 n ∧ v5 = .int .u64 x ∧ Aside0 (nums_Set_Count.w kq n x = some r) ∧ Aside0 (kq ≤ k) ∧ w1 = w')
                    case atStart => exact ⟨n2, a0_3, by first | rfl | (simp; done) | (simp [*]; done), by first | rfl | (simp; done) | (simp [*]; done), H3, ⟨Nat.le_refl _⟩, rfl⟩
                    case round =>
                      obtain ⟨n_3, x_3, rfl, rfl, HA, HK3, rfl⟩ := hrel
                      cases gk with
                      | zero => exact absurd HA.out (by simp [nums_Set_Count.w])
                      | succ k3 =>
                        have H := HA.out
                        clear HA
                        simp only [nums_Set_Count.w] at H
                        by_cases c : x_3 = 0
                        · rw [if_pos c] at H
                          subst c
                          obtain rfl := (Option.some.inj H).symm
                          clear H HK3
                          go_wp2
                          rw [rounds_succ]
                          go_wp2
                          go_ret
                          exact ⟨by first | rfl | (simp; done) | (simp [*]; done), HB.out⟩
                        · rw [if_neg c] at H
                          have cb : (x_3 == 0) = false := beq_eq_false_iff_ne.mpr c
                          have cb2 : (x_3 != 0) = true := bne_iff_ne.mpr c
                          have H' := Aside0.mk H
                          clear H
                          go_wp2
                          go_roundg k3
                          case measure => have := HK3.out; omega
                          case rel => exact ⟨_, _, rfl, rfl, H', ⟨by have := HK3.out; omega⟩, rfl⟩
                  · rw [if_neg c] at H
                    have cb : (x_2 == 0) = false := beq_eq_false_iff_ne.mpr c
                    have cb2 : (x_2 != 0) = true := bne_iff_ne.mpr c
                    have H' := Aside0.mk H
                    clear H
                    go_wp2
                    go_roundg k2
                    case measure => have := HK2.out; omega
                    case rel => exact ⟨_, _, rfl, rfl, H', ⟨by have := HK2.out; omega⟩, rfl⟩
            · rw [if_neg c] at H
              have cb : (x_1 == 0) = false := beq_eq_false_iff_ne.mpr c
              have cb2 : (x_1 != 0) = true := bne_iff_ne.mpr c
              have H' := Aside0.mk H
              clear H
              go_wp2
              go_roundg k1
              case measure => have := HK1.out; omega
              case rel => exact ⟨_, _, rfl, rfl, H', ⟨by have := HK1.out; omega⟩, rfl⟩
      · rw [if_neg c] at H
        have cb : (x_0 == 0) = false := beq_eq_false_iff_ne.mpr c
        have cb2 : (x_0 != 0) = true := bne_iff_ne.mpr c
        have H' := Aside0.mk H
        clear H
        go_wp2
        go_roundg k0
        case measure => have := HK0.out; omega
        case rel => exact ⟨_, _, rfl, rfl, H', ⟨by have := HK0.out; omega⟩, rfl⟩

/-! ### corbellaw01_speaks: function 10 -/
def corbellaw01_speaks.f (k : Nat)  : Option (Bool) := (nums_Of.f k (([3, 1, 300] : List Int))).bind fun bt137 => ((nums_Put.f k 258 3).bind fun t142 => (if t142.toList = ([0, 1, 2] : List UInt8) then ((nums_Set_Count.f k bt137.1 bt137.2.1 bt137.2.2.1 bt137.2.2.2).bind fun t143 => (if t143 = 2 then ((nums_Set_Has.f bt137.1 bt137.2.1 bt137.2.2.1 bt137.2.2.2 3).bind fun t144 => (if t144 = true then ((nums_Set_Next.f k bt137.1 bt137.2.1 bt137.2.2.1 bt137.2.2.2 2).bind fun t145 => (some (t145 == 3))) else (some false))) else (some false))) else (some false)))
theorem corbellaw01_speaks.mono : ∀ k, LeO (corbellaw01_speaks.f k ) (corbellaw01_speaks.f (k + 1) ) := by
  intro  k
  unfold corbellaw01_speaks.f
  repeat' first
      | (with_reducible exact nums_Of.mono _ _)
      | (with_reducible exact nums_Put.mono _ _ _)
      | (with_reducible exact nums_Set_Count.mono _ _ _ _ _)
      | (with_reducible exact nums_Set_Next.mono _ _ _ _ _ _)
      | (with_reducible exact LeO.refl _)
      | (with_reducible exact LeO.none _)
      | (with_reducible refine LeO.ite ?_ ?_)
      | (with_reducible refine LeO.bind ?_ (fun _ => ?_))
      | exact nums_Of.mono _ _
      | exact nums_Put.mono _ _ _
      | exact nums_Set_Count.mono _ _ _ _ _
      | exact nums_Set_Next.mono _ _ _ _ _ _
      | exact LeO.none _
      | refine LeO.ite ?_ ?_
      | refine LeO.bind ?_ (fun _ => ?_)
set_option maxHeartbeats 80000000 in
set_option maxRecDepth 100000 in
theorem corbellaw01_speaks.calls (k : Nat)  (r : Bool) (w : World) (h : corbellaw01_speaks.f k  = some r) :
    Calls Try.prog 10 #[] w fun e w' => e = .returned (.bool r) ∧ Below w.heap.size w w' := by
  have hu29 := Try.underlying29
  have HB := Aside0.mk (Below.refl w.heap.size w)
  have H : ((nums_Of.f k (([3, 1, 300] : List Int))).bind fun bt137 => ((nums_Put.f k 258 3).bind fun t142 => (if t142.toList = ([0, 1, 2] : List UInt8) then ((nums_Set_Count.f k bt137.1 bt137.2.1 bt137.2.2.1 bt137.2.2.2).bind fun t143 => (if t143 = 2 then ((nums_Set_Has.f bt137.1 bt137.2.1 bt137.2.2.1 bt137.2.2.2 3).bind fun t144 => (if t144 = true then ((nums_Set_Next.f k bt137.1 bt137.2.1 bt137.2.2.1 bt137.2.2.2 2).bind fun t145 => (some (t145 == 3))) else (some false))) else (some false))) else (some false)))) = some r := h
  clear h
  obtain ⟨y134, hy134⟩ : ∃ y_ : List Int, y_ = (([3, 1, 300] : List Int)) := ⟨_, rfl⟩
  replace H : ((nums_Of.f k y134).bind fun bt137 => ((nums_Put.f k 258 3).bind fun t142 => (if t142.toList = ([0, 1, 2] : List UInt8) then ((nums_Set_Count.f k bt137.1 bt137.2.1 bt137.2.2.1 bt137.2.2.2).bind fun t143 => (if t143 = 2 then ((nums_Set_Has.f bt137.1 bt137.2.1 bt137.2.2.1 bt137.2.2.2 3).bind fun t144 => (if t144 = true then ((nums_Set_Next.f k bt137.1 bt137.2.1 bt137.2.2.1 bt137.2.2.2 2).bind fun t145 => (some (t145 == 3))) else (some false))) else (some false))) else (some false)))) = some r := by first | (rw [hy134]; with_reducible exact H) | (have H2_ := (Option.bind_some _ _).symm.trans H; rw [hy134]; with_reducible exact H2_) | (have H2_ := (Option.bind_some _ _).symm.trans H; with_reducible exact H2_) | with_reducible exact H | (rw [hy134]; exact H) | exact H
  have Ny134 := Aside0.mk hy134
  clear hy134
  replace H := Option.bind_eq_some_iff.mp H
  obtain ⟨⟨t137, t138, t139, t140⟩, A10, H⟩ := H
  replace H : ((nums_Put.f k 258 3).bind fun t142 => (if t142.toList = ([0, 1, 2] : List UInt8) then ((nums_Set_Count.f k t137 t138 t139 t140).bind fun t143 => (if t143 = 2 then ((nums_Set_Has.f t137 t138 t139 t140 3).bind fun t144 => (if t144 = true then ((nums_Set_Next.f k t137 t138 t139 t140 2).bind fun t145 => (some (t145 == 3))) else (some false))) else (some false))) else (some false))) = some r := H
  have A1 := Aside0.mk A10
  clear A10
  replace H := Option.bind_eq_some_iff.mp H
  obtain ⟨t142, A20, H⟩ := H
  replace H : (if t142.toList = ([0, 1, 2] : List UInt8) then ((nums_Set_Count.f k t137 t138 t139 t140).bind fun t143 => (if t143 = 2 then ((nums_Set_Has.f t137 t138 t139 t140 3).bind fun t144 => (if t144 = true then ((nums_Set_Next.f k t137 t138 t139 t140 2).bind fun t145 => (some (t145 == 3))) else (some false))) else (some false))) else (some false)) = some r := H
  have A2 := Aside0.mk A20
  clear A20
  by_cases c3 : t142.toList = ([0, 1, 2] : List UInt8)
  · rw [if_pos c3] at H
    have c3b0 : (t142.toList == ([0, 1, 2] : List UInt8)) = true := beq_iff_eq.mpr c3
    have c3b1 : (t142.toList != ([0, 1, 2] : List UInt8)) = false := bne_eq_false_iff_eq.mpr c3
    clear c3
    replace H := Option.bind_eq_some_iff.mp H
    obtain ⟨t143, A40, H⟩ := H
    replace H : (if t143 = 2 then ((nums_Set_Has.f t137 t138 t139 t140 3).bind fun t144 => (if t144 = true then ((nums_Set_Next.f k t137 t138 t139 t140 2).bind fun t145 => (some (t145 == 3))) else (some false))) else (some false)) = some r := H
    have A4 := Aside0.mk A40
    clear A40
    by_cases c5 : t143 = 2
    · rw [if_pos c5] at H
      have c5b0 : (t143 == 2) = true := beq_iff_eq.mpr c5
      have c5b1 : (t143 != 2) = false := bne_eq_false_iff_eq.mpr c5
      clear c5
      replace H := Option.bind_eq_some_iff.mp H
      obtain ⟨t144, A60, H⟩ := H
      replace H : (if t144 = true then ((nums_Set_Next.f k t137 t138 t139 t140 2).bind fun t145 => (some (t145 == 3))) else (some false)) = some r := H
      have A6 := Aside0.mk A60
      clear A60
      by_cases c7 : t144 = true
      · subst c7
        have H1 : ((nums_Set_Next.f k t137 t138 t139 t140 2).bind fun t145 => (some (t145 == 3))) = some r := by rw [if_pos rfl] at H; exact H
        clear H
        have H := H1
        clear H1
        replace H := Option.bind_eq_some_iff.mp H
        obtain ⟨t145, A80, H⟩ := H
        replace H : (some (t145 == 3)) = some r := H
        have A8 := Aside0.mk A80
        clear A80
        obtain rfl := Option.some.inj H
        go_enter Try.func10, Try.ntmps10
        go_wp2_with (first | ((with_reducible refine gate_dst (N := 2) rfl ?_); refine Kd.R_lit (Kd.int .i64) _ 3 ?hg (N := 2) ?hd (xs := ([3, 1, 300] : List Int)) (inner := [.int .i64 3, .int .i64 1, .int .i64 300]) (ok := fun _ => True) (okp := fun _ => True) ?hr ?hp (fun _ hk => hk) trivial (Below.refl _ _) (Nat.le_refl _) (by simp) ?_; (case hd => rfl); (case hg => rfl); (case hr => first | (go_simp; done) | (go_simp; rfl)); (case hp => exact (Reps.one (show Kd.M (Kd.int .i64) _ _ _ 3 [.int .i64 3] from rfl) (Reps.one (show Kd.M (Kd.int .i64) _ _ _ 1 [.int .i64 1] from rfl) (Reps.one (show Kd.M (Kd.int .i64) _ _ _ 300 [.int .i64 300] from rfl) (Reps.none _ _))))); intro v135 w9 ho10 hb hg_ hnew_; clear hg_ hnew_; (first | rw [← Ny134.out] at ho10 | (simp only [Int.reduceToNat] at ho10; rw [← Ny134.out] at ho10)); have n0_ := Aside0.mk (Kd.R_lower ho10 (below_size (by repeat (first | (with_reducible first | exact HB.out | apply below_alloc | apply pw_below_drewN | apply below_drew1) | exact HB.out)))); have n1_ := Aside0.mk (below_step (by repeat (first | (with_reducible first | exact HB.out | apply below_alloc | apply pw_below_drewN | apply below_drew1) | exact HB.out)) hb); clear HB; have HO136 := n0_; have HB := n1_; clear n0_ n1_; clear hb ho10; obtain ⟨Ao11, co11, eo11⟩ := Kd.R_slice HO136.out; subst eo11) | ((with_reducible refine gate_callee (f := 13) rfl ?_); refine goesL_ (some 3) rfl rfl Try.func13 (by kernel_rfl) rfl #[.slice Ao11 y134.length co11] rfl (by (try simp only [List.map_toArray, List.map_cons, List.map_nil]); first | done | rfl | (simp only [List.length_drop, List.length_take]; rfl)) ?_; (with_reducible refine (nums_Of.calls k _ _ y134 t137 t138 t139 t140 _ ?side1 ?side2 A1.out).mono ?_); (case side1 => repeat (first | exact (Kd.R_reads' HO136.out).2.2 | (with_reducible refine Kd.C_alloc ?_ _) | (with_reducible refine Kd.C_drewN ?_ _) | (with_reducible refine Kd.C_drew ?_))); (case side2 => exact (Kd.R_reads' HO136.out).2.1); rintro e w12 ⟨rfl, hb⟩; refine ⟨_, rfl, ?_⟩; have n0_ := Aside0.mk (Kd.R_below (by (with_reducible repeat (first | apply Kd.R_alloc | apply Kd.R_drewN | apply Kd.R_drew)); exact HO136.out) hb); have n1_ := Aside0.mk (below_step (by repeat (first | (with_reducible first | exact HB.out | apply below_alloc | apply pw_below_drewN | apply below_drew1) | exact HB.out)) hb); clear HO136; clear HB; have HO136 := n0_; have HB := n1_; clear n0_ n1_; (try clear hb); (try clear hb2); (try clear hk); (try clear hi)) | ((with_reducible refine gate_dst (N := 1) rfl ?_); refine box_event ?hg (N := 1) ?hd (cs := #[.int .u64 0, .int .u64 0, .int .u64 0, .int .u64 0]) (t := 29) ?hr ?_; (case hd => rfl); (case hg => rfl); (case hr => first | (go_simp; done) | (go_simp; rfl)); intro gb141 hg w13 hbox hb; have n0_ := Aside0.mk (Kd.R_below (by (with_reducible repeat (first | apply Kd.R_alloc | apply Kd.R_drewN | apply Kd.R_drew)); exact HO136.out) hb); have n1_ := Aside0.mk (below_step (by repeat (first | (with_reducible first | exact HB.out | apply below_alloc | apply pw_below_drewN | apply below_drew1) | exact HB.out)) hb); have n2_ := Aside0.mk (hbox); have n3_ := Aside0.mk ((by rw [hg]; exact (below_size (by repeat (first | (with_reducible first | exact HB.out | apply below_alloc | apply pw_below_drewN | apply below_drew1) | exact HB.out))) : w.heap.size ≤ gb141)); have n4_ := Aside0.mk ((by rw [hg]; exact (below_size (by repeat (first | (with_reducible first | exact HB.out | apply below_alloc | apply pw_below_drewN | apply below_drew1) | exact HB.out))) : w.heap.size ≤ gb141)); clear HO136; clear HB; have HO136 := n0_; have HB := n1_; have BK141 := n2_; have GW141 := n3_; have GE141 := n4_; clear n0_ n1_ n2_ n3_ n4_; clear hb hbox hg; have hcz14_0 : w13.cell? ⟨gb141, 0, none⟩ = some (.int .u64 0) := (blk_cell BK141.out 0).trans rfl; have hcz14_1 : w13.cell? ⟨gb141, 1, none⟩ = some (.int .u64 0) := (blk_cell BK141.out 1).trans rfl; have hcz14_2 : w13.cell? ⟨gb141, 2, none⟩ = some (.int .u64 0) := (blk_cell BK141.out 2).trans rfl; have hcz14_3 : w13.cell? ⟨gb141, 3, none⟩ = some (.int .u64 0) := (blk_cell BK141.out 3).trans rfl; have hfz14_0 := blk_frozen BK141.out 0; have hfz14_1 := blk_frozen BK141.out 1; have hfz14_2 := blk_frozen BK141.out 2; have hfz14_3 := blk_frozen BK141.out 3) | ((with_reducible refine gate_callee (f := 11) rfl ?_); refine goesL_ (some 4) rfl rfl Try.func11 (by kernel_rfl) rfl #[.int .i64 258, .int .i64 3] rfl (by (try simp only [List.map_toArray, List.map_cons, List.map_nil]); first | done | rfl | (simp only [List.length_drop, List.length_take]; rfl)) ?_; (with_reducible refine (nums_Put.calls k 258 3 t142 _ A2.out).mono ?_); rintro e w15 ⟨rfl, hb⟩; refine ⟨_, rfl, ?_⟩; have n0_ := Aside0.mk (Kd.R_below (by (with_reducible repeat (first | apply Kd.R_alloc | apply Kd.R_drewN | apply Kd.R_drew)); exact (Kd.R_mono (Kd.R_far (p := ⟨gb141, 3, none⟩) (Kd.R_far (p := ⟨gb141, 2, none⟩) (Kd.R_far (p := ⟨gb141, 1, none⟩) (Kd.R_far (p := ⟨gb141, 0, none⟩) (Kd.R_types HO136.out BK141.out (by decide)) (fun _ hk => hk.2) (.int .u64 t137)) (fun _ hk => hk.2) (.int .u64 t138)) (fun _ hk => hk.2) (.int .u64 t139)) (fun _ hk => hk.2) (.int .u64 t140)) (fun _ h_ => h_.1))) hb); have n1_ := Aside0.mk (blk_below (g := gb141) (o := .cells #[.int .u64 t137, .int .u64 t138, .int .u64 t139, .int .u64 t140] 29 (0, 0)) (by (with_reducible repeat (first | refine blk_drewN ?_ _ | refine blk_drew ?_ | refine blk_alloc ?_ _)); refine blk_put (cs := #[.int .u64 t137, .int .u64 t138, .int .u64 t139, .int .u64 0]) ?_ 3 _ rfl; (with_reducible repeat (first | refine blk_drewN ?_ _ | refine blk_drew ?_ | refine blk_alloc ?_ _)); refine blk_put (cs := #[.int .u64 t137, .int .u64 t138, .int .u64 0, .int .u64 0]) ?_ 2 _ rfl; (with_reducible repeat (first | refine blk_drewN ?_ _ | refine blk_drew ?_ | refine blk_alloc ?_ _)); refine blk_put (cs := #[.int .u64 t137, .int .u64 0, .int .u64 0, .int .u64 0]) ?_ 1 _ rfl; (with_reducible repeat (first | refine blk_drewN ?_ _ | refine blk_drew ?_ | refine blk_alloc ?_ _)); refine blk_put (cs := #[.int .u64 0, .int .u64 0, .int .u64 0, .int .u64 0]) ?_ 0 _ rfl; (with_reducible repeat (first | refine blk_drewN ?_ _ | refine blk_drew ?_ | refine blk_alloc ?_ _)); exact BK141.out) hb); have n2_ := Aside0.mk (below_step (by repeat (first | (with_reducible first | exact HB.out | apply below_alloc | apply pw_below_drewN | apply below_drew1 | refine below_set ?_ GE141.out) | exact HB.out)) hb); clear HO136; clear BK141; clear HB; have HO136 := n0_; have BK141 := n1_; have HB := n2_; clear n0_ n1_ n2_; (try clear hb); (try clear hb2); (try clear hk); (try clear hi); have hcz16_0 : w15.cell? ⟨gb141, 0, none⟩ = some (.int .u64 t137) := (blk_cell BK141.out 0).trans rfl; have hcz16_1 : w15.cell? ⟨gb141, 1, none⟩ = some (.int .u64 t138) := (blk_cell BK141.out 1).trans rfl; have hcz16_2 : w15.cell? ⟨gb141, 2, none⟩ = some (.int .u64 t139) := (blk_cell BK141.out 2).trans rfl; have hcz16_3 : w15.cell? ⟨gb141, 3, none⟩ = some (.int .u64 t140) := (blk_cell BK141.out 3).trans rfl; have hfz16_0 := blk_frozen BK141.out 0; have hfz16_1 := blk_frozen BK141.out 1; have hfz16_2 := blk_frozen BK141.out 2; have hfz16_3 := blk_frozen BK141.out 3) | (go_at_call 16; (with_reducible refine (nums_Set_Count.calls k t137 t138 t139 t140 t143 _ A4.out).mono ?_); rintro e w17 ⟨rfl, hb⟩; have n0_ := Aside0.mk (Kd.R_below (by (with_reducible repeat (first | apply Kd.R_alloc | apply Kd.R_drewN | apply Kd.R_drew)); exact HO136.out) hb); have n1_ := Aside0.mk (blk_below (g := gb141) (o := .cells #[.int .u64 t137, .int .u64 t138, .int .u64 t139, .int .u64 t140] 29 (0, 0)) (by (with_reducible repeat (first | refine blk_drewN ?_ _ | refine blk_drew ?_ | refine blk_alloc ?_ _)); exact BK141.out) hb); have n2_ := Aside0.mk (below_step (by repeat (first | (with_reducible first | exact HB.out | apply below_alloc | apply pw_below_drewN | apply below_drew1 | refine below_set ?_ GE141.out) | exact HB.out)) hb); clear HO136; clear BK141; clear HB; have HO136 := n0_; have BK141 := n1_; have HB := n2_; clear n0_ n1_ n2_; (try clear hb); (try clear hb2); (try clear hk); (try clear hi); have hcz18_0 : w17.cell? ⟨gb141, 0, none⟩ = some (.int .u64 t137) := (blk_cell BK141.out 0).trans rfl; have hcz18_1 : w17.cell? ⟨gb141, 1, none⟩ = some (.int .u64 t138) := (blk_cell BK141.out 1).trans rfl; have hcz18_2 : w17.cell? ⟨gb141, 2, none⟩ = some (.int .u64 t139) := (blk_cell BK141.out 2).trans rfl; have hcz18_3 : w17.cell? ⟨gb141, 3, none⟩ = some (.int .u64 t140) := (blk_cell BK141.out 3).trans rfl; have hfz18_0 := blk_frozen BK141.out 0; have hfz18_1 := blk_frozen BK141.out 1; have hfz18_2 := blk_frozen BK141.out 2; have hfz18_3 := blk_frozen BK141.out 3) | (go_at_call 15; (with_reducible refine (nums_Set_Has.calls t137 t138 t139 t140 3 true _ A6.out).mono ?_); rintro e w19 ⟨rfl, hb⟩; have n0_ := Aside0.mk (Kd.R_below (by (with_reducible repeat (first | apply Kd.R_alloc | apply Kd.R_drewN | apply Kd.R_drew)); exact HO136.out) hb); have n1_ := Aside0.mk (blk_below (g := gb141) (o := .cells #[.int .u64 t137, .int .u64 t138, .int .u64 t139, .int .u64 t140] 29 (0, 0)) (by (with_reducible repeat (first | refine blk_drewN ?_ _ | refine blk_drew ?_ | refine blk_alloc ?_ _)); exact BK141.out) hb); have n2_ := Aside0.mk (below_step (by repeat (first | (with_reducible first | exact HB.out | apply below_alloc | apply pw_below_drewN | apply below_drew1 | refine below_set ?_ GE141.out) | exact HB.out)) hb); clear HO136; clear BK141; clear HB; have HO136 := n0_; have BK141 := n1_; have HB := n2_; clear n0_ n1_ n2_; (try clear hb); (try clear hb2); (try clear hk); (try clear hi); have hcz20_0 : w19.cell? ⟨gb141, 0, none⟩ = some (.int .u64 t137) := (blk_cell BK141.out 0).trans rfl; have hcz20_1 : w19.cell? ⟨gb141, 1, none⟩ = some (.int .u64 t138) := (blk_cell BK141.out 1).trans rfl; have hcz20_2 : w19.cell? ⟨gb141, 2, none⟩ = some (.int .u64 t139) := (blk_cell BK141.out 2).trans rfl; have hcz20_3 : w19.cell? ⟨gb141, 3, none⟩ = some (.int .u64 t140) := (blk_cell BK141.out 3).trans rfl; have hfz20_0 := blk_frozen BK141.out 0; have hfz20_1 := blk_frozen BK141.out 1; have hfz20_2 := blk_frozen BK141.out 2; have hfz20_3 := blk_frozen BK141.out 3) | (go_at_call 14; (with_reducible refine (nums_Set_Next.calls k t137 t138 t139 t140 2 t145 _ A8.out).mono ?_); rintro e w21 ⟨rfl, hb⟩; have n0_ := Aside0.mk (Kd.R_below (by (with_reducible repeat (first | apply Kd.R_alloc | apply Kd.R_drewN | apply Kd.R_drew)); exact HO136.out) hb); have n1_ := Aside0.mk (blk_below (g := gb141) (o := .cells #[.int .u64 t137, .int .u64 t138, .int .u64 t139, .int .u64 t140] 29 (0, 0)) (by (with_reducible repeat (first | refine blk_drewN ?_ _ | refine blk_drew ?_ | refine blk_alloc ?_ _)); exact BK141.out) hb); have n2_ := Aside0.mk (below_step (by repeat (first | (with_reducible first | exact HB.out | apply below_alloc | apply pw_below_drewN | apply below_drew1 | refine below_set ?_ GE141.out) | exact HB.out)) hb); clear HO136; clear BK141; clear HB; have HO136 := n0_; have BK141 := n1_; have HB := n2_; clear n0_ n1_ n2_; (try clear hb); (try clear hb2); (try clear hk); (try clear hi)))
        all_goals go_ret
        all_goals exact ⟨by first | rfl | (simp [errW_none, errW_some] <;> rfl) | (simp [*, errW_none, errW_some] <;> rfl), by repeat (first | (with_reducible first | exact HB.out | apply below_alloc | apply pw_below_drewN | apply below_drew1 | refine below_set ?_ GE141.out) | exact HB.out)⟩
      · replace c7 := Bool.eq_false_iff.mpr c7
        subst c7
        have H1 : (some false) = some r := by rw [if_neg (show ¬ (false = true) by decide)] at H; exact H
        clear H
        have H := H1
        clear H1
        obtain rfl := Option.some.inj H
        go_enter Try.func10, Try.ntmps10
        go_wp2_with (first | ((with_reducible refine gate_dst (N := 2) rfl ?_); refine Kd.R_lit (Kd.int .i64) _ 3 ?hg (N := 2) ?hd (xs := ([3, 1, 300] : List Int)) (inner := [.int .i64 3, .int .i64 1, .int .i64 300]) (ok := fun _ => True) (okp := fun _ => True) ?hr ?hp (fun _ hk => hk) trivial (Below.refl _ _) (Nat.le_refl _) (by simp) ?_; (case hd => rfl); (case hg => rfl); (case hr => first | (go_simp; done) | (go_simp; rfl)); (case hp => exact (Reps.one (show Kd.M (Kd.int .i64) _ _ _ 3 [.int .i64 3] from rfl) (Reps.one (show Kd.M (Kd.int .i64) _ _ _ 1 [.int .i64 1] from rfl) (Reps.one (show Kd.M (Kd.int .i64) _ _ _ 300 [.int .i64 300] from rfl) (Reps.none _ _))))); intro v135 w22 ho23 hb hg_ hnew_; clear hg_ hnew_; (first | rw [← Ny134.out] at ho23 | (simp only [Int.reduceToNat] at ho23; rw [← Ny134.out] at ho23)); have n0_ := Aside0.mk (Kd.R_lower ho23 (below_size (by repeat (first | (with_reducible first | exact HB.out | apply below_alloc | apply pw_below_drewN | apply below_drew1) | exact HB.out)))); have n1_ := Aside0.mk (below_step (by repeat (first | (with_reducible first | exact HB.out | apply below_alloc | apply pw_below_drewN | apply below_drew1) | exact HB.out)) hb); clear HB; have HO136 := n0_; have HB := n1_; clear n0_ n1_; clear hb ho23; obtain ⟨Ao24, co24, eo24⟩ := Kd.R_slice HO136.out; subst eo24) | ((with_reducible refine gate_callee (f := 13) rfl ?_); refine goesL_ (some 3) rfl rfl Try.func13 (by kernel_rfl) rfl #[.slice Ao24 y134.length co24] rfl (by (try simp only [List.map_toArray, List.map_cons, List.map_nil]); first | done | rfl | (simp only [List.length_drop, List.length_take]; rfl)) ?_; (with_reducible refine (nums_Of.calls k _ _ y134 t137 t138 t139 t140 _ ?side1 ?side2 A1.out).mono ?_); (case side1 => repeat (first | exact (Kd.R_reads' HO136.out).2.2 | (with_reducible refine Kd.C_alloc ?_ _) | (with_reducible refine Kd.C_drewN ?_ _) | (with_reducible refine Kd.C_drew ?_))); (case side2 => exact (Kd.R_reads' HO136.out).2.1); rintro e w25 ⟨rfl, hb⟩; refine ⟨_, rfl, ?_⟩; have n0_ := Aside0.mk (Kd.R_below (by (with_reducible repeat (first | apply Kd.R_alloc | apply Kd.R_drewN | apply Kd.R_drew)); exact HO136.out) hb); have n1_ := Aside0.mk (below_step (by repeat (first | (with_reducible first | exact HB.out | apply below_alloc | apply pw_below_drewN | apply below_drew1) | exact HB.out)) hb); clear HO136; clear HB; have HO136 := n0_; have HB := n1_; clear n0_ n1_; (try clear hb); (try clear hb2); (try clear hk); (try clear hi)) | ((with_reducible refine gate_dst (N := 1) rfl ?_); refine box_event ?hg (N := 1) ?hd (cs := #[.int .u64 0, .int .u64 0, .int .u64 0, .int .u64 0]) (t := 29) ?hr ?_; (case hd => rfl); (case hg => rfl); (case hr => first | (go_simp; done) | (go_simp; rfl)); intro gb141 hg w26 hbox hb; have n0_ := Aside0.mk (Kd.R_below (by (with_reducible repeat (first | apply Kd.R_alloc | apply Kd.R_drewN | apply Kd.R_drew)); exact HO136.out) hb); have n1_ := Aside0.mk (below_step (by repeat (first | (with_reducible first | exact HB.out | apply below_alloc | apply pw_below_drewN | apply below_drew1) | exact HB.out)) hb); have n2_ := Aside0.mk (hbox); have n3_ := Aside0.mk ((by rw [hg]; exact (below_size (by repeat (first | (with_reducible first | exact HB.out | apply below_alloc | apply pw_below_drewN | apply below_drew1) | exact HB.out))) : w.heap.size ≤ gb141)); have n4_ := Aside0.mk ((by rw [hg]; exact (below_size (by repeat (first | (with_reducible first | exact HB.out | apply below_alloc | apply pw_below_drewN | apply below_drew1) | exact HB.out))) : w.heap.size ≤ gb141)); clear HO136; clear HB; have HO136 := n0_; have HB := n1_; have BK141 := n2_; have GW141 := n3_; have GE141 := n4_; clear n0_ n1_ n2_ n3_ n4_; clear hb hbox hg; have hcz27_0 : w26.cell? ⟨gb141, 0, none⟩ = some (.int .u64 0) := (blk_cell BK141.out 0).trans rfl; have hcz27_1 : w26.cell? ⟨gb141, 1, none⟩ = some (.int .u64 0) := (blk_cell BK141.out 1).trans rfl; have hcz27_2 : w26.cell? ⟨gb141, 2, none⟩ = some (.int .u64 0) := (blk_cell BK141.out 2).trans rfl; have hcz27_3 : w26.cell? ⟨gb141, 3, none⟩ = some (.int .u64 0) := (blk_cell BK141.out 3).trans rfl; have hfz27_0 := blk_frozen BK141.out 0; have hfz27_1 := blk_frozen BK141.out 1; have hfz27_2 := blk_frozen BK141.out 2; have hfz27_3 := blk_frozen BK141.out 3) | ((with_reducible refine gate_callee (f := 11) rfl ?_); refine goesL_ (some 4) rfl rfl Try.func11 (by kernel_rfl) rfl #[.int .i64 258, .int .i64 3] rfl (by (try simp only [List.map_toArray, List.map_cons, List.map_nil]); first | done | rfl | (simp only [List.length_drop, List.length_take]; rfl)) ?_; (with_reducible refine (nums_Put.calls k 258 3 t142 _ A2.out).mono ?_); rintro e w28 ⟨rfl, hb⟩; refine ⟨_, rfl, ?_⟩; have n0_ := Aside0.mk (Kd.R_below (by (with_reducible repeat (first | apply Kd.R_alloc | apply Kd.R_drewN | apply Kd.R_drew)); exact (Kd.R_mono (Kd.R_far (p := ⟨gb141, 3, none⟩) (Kd.R_far (p := ⟨gb141, 2, none⟩) (Kd.R_far (p := ⟨gb141, 1, none⟩) (Kd.R_far (p := ⟨gb141, 0, none⟩) (Kd.R_types HO136.out BK141.out (by decide)) (fun _ hk => hk.2) (.int .u64 t137)) (fun _ hk => hk.2) (.int .u64 t138)) (fun _ hk => hk.2) (.int .u64 t139)) (fun _ hk => hk.2) (.int .u64 t140)) (fun _ h_ => h_.1))) hb); have n1_ := Aside0.mk (blk_below (g := gb141) (o := .cells #[.int .u64 t137, .int .u64 t138, .int .u64 t139, .int .u64 t140] 29 (0, 0)) (by (with_reducible repeat (first | refine blk_drewN ?_ _ | refine blk_drew ?_ | refine blk_alloc ?_ _)); refine blk_put (cs := #[.int .u64 t137, .int .u64 t138, .int .u64 t139, .int .u64 0]) ?_ 3 _ rfl; (with_reducible repeat (first | refine blk_drewN ?_ _ | refine blk_drew ?_ | refine blk_alloc ?_ _)); refine blk_put (cs := #[.int .u64 t137, .int .u64 t138, .int .u64 0, .int .u64 0]) ?_ 2 _ rfl; (with_reducible repeat (first | refine blk_drewN ?_ _ | refine blk_drew ?_ | refine blk_alloc ?_ _)); refine blk_put (cs := #[.int .u64 t137, .int .u64 0, .int .u64 0, .int .u64 0]) ?_ 1 _ rfl; (with_reducible repeat (first | refine blk_drewN ?_ _ | refine blk_drew ?_ | refine blk_alloc ?_ _)); refine blk_put (cs := #[.int .u64 0, .int .u64 0, .int .u64 0, .int .u64 0]) ?_ 0 _ rfl; (with_reducible repeat (first | refine blk_drewN ?_ _ | refine blk_drew ?_ | refine blk_alloc ?_ _)); exact BK141.out) hb); have n2_ := Aside0.mk (below_step (by repeat (first | (with_reducible first | exact HB.out | apply below_alloc | apply pw_below_drewN | apply below_drew1 | refine below_set ?_ GE141.out) | exact HB.out)) hb); clear HO136; clear BK141; clear HB; have HO136 := n0_; have BK141 := n1_; have HB := n2_; clear n0_ n1_ n2_; (try clear hb); (try clear hb2); (try clear hk); (try clear hi); have hcz29_0 : w28.cell? ⟨gb141, 0, none⟩ = some (.int .u64 t137) := (blk_cell BK141.out 0).trans rfl; have hcz29_1 : w28.cell? ⟨gb141, 1, none⟩ = some (.int .u64 t138) := (blk_cell BK141.out 1).trans rfl; have hcz29_2 : w28.cell? ⟨gb141, 2, none⟩ = some (.int .u64 t139) := (blk_cell BK141.out 2).trans rfl; have hcz29_3 : w28.cell? ⟨gb141, 3, none⟩ = some (.int .u64 t140) := (blk_cell BK141.out 3).trans rfl; have hfz29_0 := blk_frozen BK141.out 0; have hfz29_1 := blk_frozen BK141.out 1; have hfz29_2 := blk_frozen BK141.out 2; have hfz29_3 := blk_frozen BK141.out 3) | (go_at_call 16; (with_reducible refine (nums_Set_Count.calls k t137 t138 t139 t140 t143 _ A4.out).mono ?_); rintro e w30 ⟨rfl, hb⟩; have n0_ := Aside0.mk (Kd.R_below (by (with_reducible repeat (first | apply Kd.R_alloc | apply Kd.R_drewN | apply Kd.R_drew)); exact HO136.out) hb); have n1_ := Aside0.mk (blk_below (g := gb141) (o := .cells #[.int .u64 t137, .int .u64 t138, .int .u64 t139, .int .u64 t140] 29 (0, 0)) (by (with_reducible repeat (first | refine blk_drewN ?_ _ | refine blk_drew ?_ | refine blk_alloc ?_ _)); exact BK141.out) hb); have n2_ := Aside0.mk (below_step (by repeat (first | (with_reducible first | exact HB.out | apply below_alloc | apply pw_below_drewN | apply below_drew1 | refine below_set ?_ GE141.out) | exact HB.out)) hb); clear HO136; clear BK141; clear HB; have HO136 := n0_; have BK141 := n1_; have HB := n2_; clear n0_ n1_ n2_; (try clear hb); (try clear hb2); (try clear hk); (try clear hi); have hcz31_0 : w30.cell? ⟨gb141, 0, none⟩ = some (.int .u64 t137) := (blk_cell BK141.out 0).trans rfl; have hcz31_1 : w30.cell? ⟨gb141, 1, none⟩ = some (.int .u64 t138) := (blk_cell BK141.out 1).trans rfl; have hcz31_2 : w30.cell? ⟨gb141, 2, none⟩ = some (.int .u64 t139) := (blk_cell BK141.out 2).trans rfl; have hcz31_3 : w30.cell? ⟨gb141, 3, none⟩ = some (.int .u64 t140) := (blk_cell BK141.out 3).trans rfl; have hfz31_0 := blk_frozen BK141.out 0; have hfz31_1 := blk_frozen BK141.out 1; have hfz31_2 := blk_frozen BK141.out 2; have hfz31_3 := blk_frozen BK141.out 3) | (go_at_call 15; (with_reducible refine (nums_Set_Has.calls t137 t138 t139 t140 3 false _ A6.out).mono ?_); rintro e w32 ⟨rfl, hb⟩; have n0_ := Aside0.mk (Kd.R_below (by (with_reducible repeat (first | apply Kd.R_alloc | apply Kd.R_drewN | apply Kd.R_drew)); exact HO136.out) hb); have n1_ := Aside0.mk (blk_below (g := gb141) (o := .cells #[.int .u64 t137, .int .u64 t138, .int .u64 t139, .int .u64 t140] 29 (0, 0)) (by (with_reducible repeat (first | refine blk_drewN ?_ _ | refine blk_drew ?_ | refine blk_alloc ?_ _)); exact BK141.out) hb); have n2_ := Aside0.mk (below_step (by repeat (first | (with_reducible first | exact HB.out | apply below_alloc | apply pw_below_drewN | apply below_drew1 | refine below_set ?_ GE141.out) | exact HB.out)) hb); clear HO136; clear BK141; clear HB; have HO136 := n0_; have BK141 := n1_; have HB := n2_; clear n0_ n1_ n2_; (try clear hb); (try clear hb2); (try clear hk); (try clear hi)))
        all_goals go_ret
        all_goals exact ⟨by first | rfl | (simp [errW_none, errW_some] <;> rfl) | (simp [*, errW_none, errW_some] <;> rfl), by repeat (first | (with_reducible first | exact HB.out | apply below_alloc | apply pw_below_drewN | apply below_drew1 | refine below_set ?_ GE141.out) | exact HB.out)⟩
    · rw [if_neg c5] at H
      have c5b0 : (t143 == 2) = false := beq_eq_false_iff_ne.mpr c5
      have c5b1 : (t143 != 2) = true := bne_iff_ne.mpr c5
      obtain rfl := Option.some.inj H
      go_enter Try.func10, Try.ntmps10
      go_wp2_with (first | ((with_reducible refine gate_dst (N := 2) rfl ?_); refine Kd.R_lit (Kd.int .i64) _ 3 ?hg (N := 2) ?hd (xs := ([3, 1, 300] : List Int)) (inner := [.int .i64 3, .int .i64 1, .int .i64 300]) (ok := fun _ => True) (okp := fun _ => True) ?hr ?hp (fun _ hk => hk) trivial (Below.refl _ _) (Nat.le_refl _) (by simp) ?_; (case hd => rfl); (case hg => rfl); (case hr => first | (go_simp; done) | (go_simp; rfl)); (case hp => exact (Reps.one (show Kd.M (Kd.int .i64) _ _ _ 3 [.int .i64 3] from rfl) (Reps.one (show Kd.M (Kd.int .i64) _ _ _ 1 [.int .i64 1] from rfl) (Reps.one (show Kd.M (Kd.int .i64) _ _ _ 300 [.int .i64 300] from rfl) (Reps.none _ _))))); intro v135 w33 ho34 hb hg_ hnew_; clear hg_ hnew_; (first | rw [← Ny134.out] at ho34 | (simp only [Int.reduceToNat] at ho34; rw [← Ny134.out] at ho34)); have n0_ := Aside0.mk (Kd.R_lower ho34 (below_size (by repeat (first | (with_reducible first | exact HB.out | apply below_alloc | apply pw_below_drewN | apply below_drew1) | exact HB.out)))); have n1_ := Aside0.mk (below_step (by repeat (first | (with_reducible first | exact HB.out | apply below_alloc | apply pw_below_drewN | apply below_drew1) | exact HB.out)) hb); clear HB; have HO136 := n0_; have HB := n1_; clear n0_ n1_; clear hb ho34; obtain ⟨Ao35, co35, eo35⟩ := Kd.R_slice HO136.out; subst eo35) | ((with_reducible refine gate_callee (f := 13) rfl ?_); refine goesL_ (some 3) rfl rfl Try.func13 (by kernel_rfl) rfl #[.slice Ao35 y134.length co35] rfl (by (try simp only [List.map_toArray, List.map_cons, List.map_nil]); first | done | rfl | (simp only [List.length_drop, List.length_take]; rfl)) ?_; (with_reducible refine (nums_Of.calls k _ _ y134 t137 t138 t139 t140 _ ?side1 ?side2 A1.out).mono ?_); (case side1 => repeat (first | exact (Kd.R_reads' HO136.out).2.2 | (with_reducible refine Kd.C_alloc ?_ _) | (with_reducible refine Kd.C_drewN ?_ _) | (with_reducible refine Kd.C_drew ?_))); (case side2 => exact (Kd.R_reads' HO136.out).2.1); rintro e w36 ⟨rfl, hb⟩; refine ⟨_, rfl, ?_⟩; have n0_ := Aside0.mk (Kd.R_below (by (with_reducible repeat (first | apply Kd.R_alloc | apply Kd.R_drewN | apply Kd.R_drew)); exact HO136.out) hb); have n1_ := Aside0.mk (below_step (by repeat (first | (with_reducible first | exact HB.out | apply below_alloc | apply pw_below_drewN | apply below_drew1) | exact HB.out)) hb); clear HO136; clear HB; have HO136 := n0_; have HB := n1_; clear n0_ n1_; (try clear hb); (try clear hb2); (try clear hk); (try clear hi)) | ((with_reducible refine gate_dst (N := 1) rfl ?_); refine box_event ?hg (N := 1) ?hd (cs := #[.int .u64 0, .int .u64 0, .int .u64 0, .int .u64 0]) (t := 29) ?hr ?_; (case hd => rfl); (case hg => rfl); (case hr => first | (go_simp; done) | (go_simp; rfl)); intro gb141 hg w37 hbox hb; have n0_ := Aside0.mk (Kd.R_below (by (with_reducible repeat (first | apply Kd.R_alloc | apply Kd.R_drewN | apply Kd.R_drew)); exact HO136.out) hb); have n1_ := Aside0.mk (below_step (by repeat (first | (with_reducible first | exact HB.out | apply below_alloc | apply pw_below_drewN | apply below_drew1) | exact HB.out)) hb); have n2_ := Aside0.mk (hbox); have n3_ := Aside0.mk ((by rw [hg]; exact (below_size (by repeat (first | (with_reducible first | exact HB.out | apply below_alloc | apply pw_below_drewN | apply below_drew1) | exact HB.out))) : w.heap.size ≤ gb141)); have n4_ := Aside0.mk ((by rw [hg]; exact (below_size (by repeat (first | (with_reducible first | exact HB.out | apply below_alloc | apply pw_below_drewN | apply below_drew1) | exact HB.out))) : w.heap.size ≤ gb141)); clear HO136; clear HB; have HO136 := n0_; have HB := n1_; have BK141 := n2_; have GW141 := n3_; have GE141 := n4_; clear n0_ n1_ n2_ n3_ n4_; clear hb hbox hg; have hcz38_0 : w37.cell? ⟨gb141, 0, none⟩ = some (.int .u64 0) := (blk_cell BK141.out 0).trans rfl; have hcz38_1 : w37.cell? ⟨gb141, 1, none⟩ = some (.int .u64 0) := (blk_cell BK141.out 1).trans rfl; have hcz38_2 : w37.cell? ⟨gb141, 2, none⟩ = some (.int .u64 0) := (blk_cell BK141.out 2).trans rfl; have hcz38_3 : w37.cell? ⟨gb141, 3, none⟩ = some (.int .u64 0) := (blk_cell BK141.out 3).trans rfl; have hfz38_0 := blk_frozen BK141.out 0; have hfz38_1 := blk_frozen BK141.out 1; have hfz38_2 := blk_frozen BK141.out 2; have hfz38_3 := blk_frozen BK141.out 3) | ((with_reducible refine gate_callee (f := 11) rfl ?_); refine goesL_ (some 4) rfl rfl Try.func11 (by kernel_rfl) rfl #[.int .i64 258, .int .i64 3] rfl (by (try simp only [List.map_toArray, List.map_cons, List.map_nil]); first | done | rfl | (simp only [List.length_drop, List.length_take]; rfl)) ?_; (with_reducible refine (nums_Put.calls k 258 3 t142 _ A2.out).mono ?_); rintro e w39 ⟨rfl, hb⟩; refine ⟨_, rfl, ?_⟩; have n0_ := Aside0.mk (Kd.R_below (by (with_reducible repeat (first | apply Kd.R_alloc | apply Kd.R_drewN | apply Kd.R_drew)); exact (Kd.R_mono (Kd.R_far (p := ⟨gb141, 3, none⟩) (Kd.R_far (p := ⟨gb141, 2, none⟩) (Kd.R_far (p := ⟨gb141, 1, none⟩) (Kd.R_far (p := ⟨gb141, 0, none⟩) (Kd.R_types HO136.out BK141.out (by decide)) (fun _ hk => hk.2) (.int .u64 t137)) (fun _ hk => hk.2) (.int .u64 t138)) (fun _ hk => hk.2) (.int .u64 t139)) (fun _ hk => hk.2) (.int .u64 t140)) (fun _ h_ => h_.1))) hb); have n1_ := Aside0.mk (blk_below (g := gb141) (o := .cells #[.int .u64 t137, .int .u64 t138, .int .u64 t139, .int .u64 t140] 29 (0, 0)) (by (with_reducible repeat (first | refine blk_drewN ?_ _ | refine blk_drew ?_ | refine blk_alloc ?_ _)); refine blk_put (cs := #[.int .u64 t137, .int .u64 t138, .int .u64 t139, .int .u64 0]) ?_ 3 _ rfl; (with_reducible repeat (first | refine blk_drewN ?_ _ | refine blk_drew ?_ | refine blk_alloc ?_ _)); refine blk_put (cs := #[.int .u64 t137, .int .u64 t138, .int .u64 0, .int .u64 0]) ?_ 2 _ rfl; (with_reducible repeat (first | refine blk_drewN ?_ _ | refine blk_drew ?_ | refine blk_alloc ?_ _)); refine blk_put (cs := #[.int .u64 t137, .int .u64 0, .int .u64 0, .int .u64 0]) ?_ 1 _ rfl; (with_reducible repeat (first | refine blk_drewN ?_ _ | refine blk_drew ?_ | refine blk_alloc ?_ _)); refine blk_put (cs := #[.int .u64 0, .int .u64 0, .int .u64 0, .int .u64 0]) ?_ 0 _ rfl; (with_reducible repeat (first | refine blk_drewN ?_ _ | refine blk_drew ?_ | refine blk_alloc ?_ _)); exact BK141.out) hb); have n2_ := Aside0.mk (below_step (by repeat (first | (with_reducible first | exact HB.out | apply below_alloc | apply pw_below_drewN | apply below_drew1 | refine below_set ?_ GE141.out) | exact HB.out)) hb); clear HO136; clear BK141; clear HB; have HO136 := n0_; have BK141 := n1_; have HB := n2_; clear n0_ n1_ n2_; (try clear hb); (try clear hb2); (try clear hk); (try clear hi); have hcz40_0 : w39.cell? ⟨gb141, 0, none⟩ = some (.int .u64 t137) := (blk_cell BK141.out 0).trans rfl; have hcz40_1 : w39.cell? ⟨gb141, 1, none⟩ = some (.int .u64 t138) := (blk_cell BK141.out 1).trans rfl; have hcz40_2 : w39.cell? ⟨gb141, 2, none⟩ = some (.int .u64 t139) := (blk_cell BK141.out 2).trans rfl; have hcz40_3 : w39.cell? ⟨gb141, 3, none⟩ = some (.int .u64 t140) := (blk_cell BK141.out 3).trans rfl; have hfz40_0 := blk_frozen BK141.out 0; have hfz40_1 := blk_frozen BK141.out 1; have hfz40_2 := blk_frozen BK141.out 2; have hfz40_3 := blk_frozen BK141.out 3) | (go_at_call 16; (with_reducible refine (nums_Set_Count.calls k t137 t138 t139 t140 t143 _ A4.out).mono ?_); rintro e w41 ⟨rfl, hb⟩; have n0_ := Aside0.mk (Kd.R_below (by (with_reducible repeat (first | apply Kd.R_alloc | apply Kd.R_drewN | apply Kd.R_drew)); exact HO136.out) hb); have n1_ := Aside0.mk (blk_below (g := gb141) (o := .cells #[.int .u64 t137, .int .u64 t138, .int .u64 t139, .int .u64 t140] 29 (0, 0)) (by (with_reducible repeat (first | refine blk_drewN ?_ _ | refine blk_drew ?_ | refine blk_alloc ?_ _)); exact BK141.out) hb); have n2_ := Aside0.mk (below_step (by repeat (first | (with_reducible first | exact HB.out | apply below_alloc | apply pw_below_drewN | apply below_drew1 | refine below_set ?_ GE141.out) | exact HB.out)) hb); clear HO136; clear BK141; clear HB; have HO136 := n0_; have BK141 := n1_; have HB := n2_; clear n0_ n1_ n2_; (try clear hb); (try clear hb2); (try clear hk); (try clear hi)))
      all_goals go_ret
      all_goals exact ⟨by first | rfl | (simp [errW_none, errW_some] <;> rfl) | (simp [*, errW_none, errW_some] <;> rfl), by repeat (first | (with_reducible first | exact HB.out | apply below_alloc | apply pw_below_drewN | apply below_drew1 | refine below_set ?_ GE141.out) | exact HB.out)⟩
  · rw [if_neg c3] at H
    have c3b0 : (t142.toList == ([0, 1, 2] : List UInt8)) = false := beq_eq_false_iff_ne.mpr c3
    have c3b1 : (t142.toList != ([0, 1, 2] : List UInt8)) = true := bne_iff_ne.mpr c3
    obtain rfl := Option.some.inj H
    go_enter Try.func10, Try.ntmps10
    go_wp2_with (first | ((with_reducible refine gate_dst (N := 2) rfl ?_); refine Kd.R_lit (Kd.int .i64) _ 3 ?hg (N := 2) ?hd (xs := ([3, 1, 300] : List Int)) (inner := [.int .i64 3, .int .i64 1, .int .i64 300]) (ok := fun _ => True) (okp := fun _ => True) ?hr ?hp (fun _ hk => hk) trivial (Below.refl _ _) (Nat.le_refl _) (by simp) ?_; (case hd => rfl); (case hg => rfl); (case hr => first | (go_simp; done) | (go_simp; rfl)); (case hp => exact (Reps.one (show Kd.M (Kd.int .i64) _ _ _ 3 [.int .i64 3] from rfl) (Reps.one (show Kd.M (Kd.int .i64) _ _ _ 1 [.int .i64 1] from rfl) (Reps.one (show Kd.M (Kd.int .i64) _ _ _ 300 [.int .i64 300] from rfl) (Reps.none _ _))))); intro v135 w42 ho43 hb hg_ hnew_; clear hg_ hnew_; (first | rw [← Ny134.out] at ho43 | (simp only [Int.reduceToNat] at ho43; rw [← Ny134.out] at ho43)); have n0_ := Aside0.mk (Kd.R_lower ho43 (below_size (by repeat (first | (with_reducible first | exact HB.out | apply below_alloc | apply pw_below_drewN | apply below_drew1) | exact HB.out)))); have n1_ := Aside0.mk (below_step (by repeat (first | (with_reducible first | exact HB.out | apply below_alloc | apply pw_below_drewN | apply below_drew1) | exact HB.out)) hb); clear HB; have HO136 := n0_; have HB := n1_; clear n0_ n1_; clear hb ho43; obtain ⟨Ao44, co44, eo44⟩ := Kd.R_slice HO136.out; subst eo44) | ((with_reducible refine gate_callee (f := 13) rfl ?_); refine goesL_ (some 3) rfl rfl Try.func13 (by kernel_rfl) rfl #[.slice Ao44 y134.length co44] rfl (by (try simp only [List.map_toArray, List.map_cons, List.map_nil]); first | done | rfl | (simp only [List.length_drop, List.length_take]; rfl)) ?_; (with_reducible refine (nums_Of.calls k _ _ y134 t137 t138 t139 t140 _ ?side1 ?side2 A1.out).mono ?_); (case side1 => repeat (first | exact (Kd.R_reads' HO136.out).2.2 | (with_reducible refine Kd.C_alloc ?_ _) | (with_reducible refine Kd.C_drewN ?_ _) | (with_reducible refine Kd.C_drew ?_))); (case side2 => exact (Kd.R_reads' HO136.out).2.1); rintro e w45 ⟨rfl, hb⟩; refine ⟨_, rfl, ?_⟩; have n0_ := Aside0.mk (Kd.R_below (by (with_reducible repeat (first | apply Kd.R_alloc | apply Kd.R_drewN | apply Kd.R_drew)); exact HO136.out) hb); have n1_ := Aside0.mk (below_step (by repeat (first | (with_reducible first | exact HB.out | apply below_alloc | apply pw_below_drewN | apply below_drew1) | exact HB.out)) hb); clear HO136; clear HB; have HO136 := n0_; have HB := n1_; clear n0_ n1_; (try clear hb); (try clear hb2); (try clear hk); (try clear hi)) | ((with_reducible refine gate_dst (N := 1) rfl ?_); refine box_event ?hg (N := 1) ?hd (cs := #[.int .u64 0, .int .u64 0, .int .u64 0, .int .u64 0]) (t := 29) ?hr ?_; (case hd => rfl); (case hg => rfl); (case hr => first | (go_simp; done) | (go_simp; rfl)); intro gb141 hg w46 hbox hb; have n0_ := Aside0.mk (Kd.R_below (by (with_reducible repeat (first | apply Kd.R_alloc | apply Kd.R_drewN | apply Kd.R_drew)); exact HO136.out) hb); have n1_ := Aside0.mk (below_step (by repeat (first | (with_reducible first | exact HB.out | apply below_alloc | apply pw_below_drewN | apply below_drew1) | exact HB.out)) hb); have n2_ := Aside0.mk (hbox); have n3_ := Aside0.mk ((by rw [hg]; exact (below_size (by repeat (first | (with_reducible first | exact HB.out | apply below_alloc | apply pw_below_drewN | apply below_drew1) | exact HB.out))) : w.heap.size ≤ gb141)); have n4_ := Aside0.mk ((by rw [hg]; exact (below_size (by repeat (first | (with_reducible first | exact HB.out | apply below_alloc | apply pw_below_drewN | apply below_drew1) | exact HB.out))) : w.heap.size ≤ gb141)); clear HO136; clear HB; have HO136 := n0_; have HB := n1_; have BK141 := n2_; have GW141 := n3_; have GE141 := n4_; clear n0_ n1_ n2_ n3_ n4_; clear hb hbox hg; have hcz47_0 : w46.cell? ⟨gb141, 0, none⟩ = some (.int .u64 0) := (blk_cell BK141.out 0).trans rfl; have hcz47_1 : w46.cell? ⟨gb141, 1, none⟩ = some (.int .u64 0) := (blk_cell BK141.out 1).trans rfl; have hcz47_2 : w46.cell? ⟨gb141, 2, none⟩ = some (.int .u64 0) := (blk_cell BK141.out 2).trans rfl; have hcz47_3 : w46.cell? ⟨gb141, 3, none⟩ = some (.int .u64 0) := (blk_cell BK141.out 3).trans rfl; have hfz47_0 := blk_frozen BK141.out 0; have hfz47_1 := blk_frozen BK141.out 1; have hfz47_2 := blk_frozen BK141.out 2; have hfz47_3 := blk_frozen BK141.out 3) | ((with_reducible refine gate_callee (f := 11) rfl ?_); refine goesL_ (some 4) rfl rfl Try.func11 (by kernel_rfl) rfl #[.int .i64 258, .int .i64 3] rfl (by (try simp only [List.map_toArray, List.map_cons, List.map_nil]); first | done | rfl | (simp only [List.length_drop, List.length_take]; rfl)) ?_; (with_reducible refine (nums_Put.calls k 258 3 t142 _ A2.out).mono ?_); rintro e w48 ⟨rfl, hb⟩; refine ⟨_, rfl, ?_⟩; have n0_ := Aside0.mk (Kd.R_below (by (with_reducible repeat (first | apply Kd.R_alloc | apply Kd.R_drewN | apply Kd.R_drew)); exact (Kd.R_mono (Kd.R_far (p := ⟨gb141, 3, none⟩) (Kd.R_far (p := ⟨gb141, 2, none⟩) (Kd.R_far (p := ⟨gb141, 1, none⟩) (Kd.R_far (p := ⟨gb141, 0, none⟩) (Kd.R_types HO136.out BK141.out (by decide)) (fun _ hk => hk.2) (.int .u64 t137)) (fun _ hk => hk.2) (.int .u64 t138)) (fun _ hk => hk.2) (.int .u64 t139)) (fun _ hk => hk.2) (.int .u64 t140)) (fun _ h_ => h_.1))) hb); have n1_ := Aside0.mk (blk_below (g := gb141) (o := .cells #[.int .u64 t137, .int .u64 t138, .int .u64 t139, .int .u64 t140] 29 (0, 0)) (by (with_reducible repeat (first | refine blk_drewN ?_ _ | refine blk_drew ?_ | refine blk_alloc ?_ _)); refine blk_put (cs := #[.int .u64 t137, .int .u64 t138, .int .u64 t139, .int .u64 0]) ?_ 3 _ rfl; (with_reducible repeat (first | refine blk_drewN ?_ _ | refine blk_drew ?_ | refine blk_alloc ?_ _)); refine blk_put (cs := #[.int .u64 t137, .int .u64 t138, .int .u64 0, .int .u64 0]) ?_ 2 _ rfl; (with_reducible repeat (first | refine blk_drewN ?_ _ | refine blk_drew ?_ | refine blk_alloc ?_ _)); refine blk_put (cs := #[.int .u64 t137, .int .u64 0, .int .u64 0, .int .u64 0]) ?_ 1 _ rfl; (with_reducible repeat (first | refine blk_drewN ?_ _ | refine blk_drew ?_ | refine blk_alloc ?_ _)); refine blk_put (cs := #[.int .u64 0, .int .u64 0, .int .u64 0, .int .u64 0]) ?_ 0 _ rfl; (with_reducible repeat (first | refine blk_drewN ?_ _ | refine blk_drew ?_ | refine blk_alloc ?_ _)); exact BK141.out) hb); have n2_ := Aside0.mk (below_step (by repeat (first | (with_reducible first | exact HB.out | apply below_alloc | apply pw_below_drewN | apply below_drew1 | refine below_set ?_ GE141.out) | exact HB.out)) hb); clear HO136; clear BK141; clear HB; have HO136 := n0_; have BK141 := n1_; have HB := n2_; clear n0_ n1_ n2_; (try clear hb); (try clear hb2); (try clear hk); (try clear hi)))
    all_goals go_ret
    all_goals exact ⟨by first | rfl | (simp [errW_none, errW_some] <;> rfl) | (simp [*, errW_none, errW_some] <;> rfl), by repeat (first | (with_reducible first | exact HB.out | apply below_alloc | apply pw_below_drewN | apply below_drew1 | refine below_set ?_ GE141.out) | exact HB.out)⟩

end Go.Proofs.Ytncdfikcdchimaa.PNumsGets
