-- written by a program of this session (a print that was turned for this claim)
import Derived.Test.YtcikcikcjimcjaaPPlanPartsx0
import Derived.Test.YtcikcikcjimcjaaPPlanPartsx2
import Derived.Test.YtcikcikcjimcjaaPPlanPartsx3
namespace Go.Proofs.Ytcikcikcjimcjaa.PPlanParts
open Go.RowKit Go.Proofs.YtcikcikcjimcjaaW.PrintWords Go.Proofs.YtcikcikcjimcjaaW.PrintLast Go.Proofs.YtcikcikcjimcjaaW.PrintMore
attribute [local go_sem] max2_int min2_int max_two min_two max_three min_three max_four min_four   -- for this text's walks alone
set_option linter.unusedVariables false
set_option linter.unusedSimpArgs false

/-! ### plan_Write: function 16 -/
mutual
def plan_Write.j0 : Nat → Int → Int → Int → Bool → Int → Int → Int → Int → Int → Option ((List (S37)) × Int)
  | 0, _, _, _, _, _, _, _, _, _ => none
  | k + 1, x1, x2, x3, x53, x126000, x126001, x126002, x126003, x126004 => if x53 = true then (some (([] : List (S37)), 2)) else ((stripe_Pieces.f k (wrap64 (x126000 - 1)) x2 x3).bind fun t130 => (plan_Write.l0 k x1 ([] : List (S37)) (wrap64 (x126000 - 1)) t130 (t130.length : Int) 0 x126000 x126001 x126002 x126003 x126004))
def plan_Write.l0 : Nat → Int → List (S37) → Int → List (S86) → Int → Int → Int → Int → Int → Int → Int → Option ((List (S37)) × Int)
  | 0, _, _, _, _, _, _, _, _, _, _, _ => none
  | k + 1, x1, x10, x11, x60, x61, x62, x126000, x126001, x126002, x126003, x126004 => if x62 < x61 then (if 0 ≤ x62 then (if x62 < (x60.length : Int) then (plan_Write.l1 k x1 x10 x11 (wrap64 ((wrap64 (((rd_T86 x60 x62).f0) * x11)) + ((rd_T86 x60 x62).f1))) (wrap64 ((wrap64 (((rd_T86 x60 x62).f0) * x11)) + ((rd_T86 x60 x62).f1))) x60 x61 x62 x126000 x126001 x126002 x126003 x126004 ((rd_T86 x60 x62).f0) ((rd_T86 x60 x62).f1) ((rd_T86 x60 x62).f2)) else (none)) else (none)) else (some (x10, 0))
def plan_Write.l1 : Nat → Int → List (S37) → Int → Int → Int → List (S86) → Int → Int → Int → Int → Int → Int → Int → Int → Int → Int → Option ((List (S37)) × Int)
  | 0, _, _, _, _, _, _, _, _, _, _, _, _, _, _, _, _ => none
  | k + 1, x1, x10, x11, x14, x15, x60, x61, x62, x126000, x126001, x126002, x126003, x126004, x135000, x135001, x135002 => if x15 < (wrap64 (x14 + x135002)) then ((geom_Place.f x126000 x126001 x126002 x126003 x126004 x1 x15).bind fun bt135 => (if x10.length < 3518437208883 then (plan_Write.l1 k x1 (x10 ++ [(⟨1, bt135.2.1, bt135.1, x15, 0⟩ : S37)]) x11 x14 (wrap64 (x15 + 1)) x60 x61 x62 x126000 x126001 x126002 x126003 x126004 x135000 x135001 x135002) else (none))) else ((geom_Parity.f x126000 x126001 x126002 x126003 x126004 x1 x135000).bind fun t141 => (if (wrap64 (x135001 + x135002)) < x11 then (if x10.length < 3518437208883 then (plan_Write.l0 k x1 (x10 ++ [(⟨3, t141, x135000, 0, wrap64 (x135001 + x135002)⟩ : S37)]) x11 x60 x61 (wrap64 (x62 + 1)) x126000 x126001 x126002 x126003 x126004) else (none)) else (if x10.length < 3518437208883 then (plan_Write.l0 k x1 (x10 ++ [(⟨2, t141, x135000, 0, 0⟩ : S37)]) x11 x60 x61 (wrap64 (x62 + 1)) x126000 x126001 x126002 x126003 x126004) else (none))))
end
def plan_Write.f (k : Nat) (a0_0 : Int) (a0_1 : Int) (a0_2 : Int) (a0_3 : Int) (a0_4 : Int) (a1 : Int) (a2 : Int) (a3 : Int) : Option ((List (S37)) × Int) := (geom_Good.f a0_0 a0_1 a0_2 a0_3 a0_4).bind fun t126 => (if t126 = true then (if a1 < 0 then (plan_Write.j0 k a1 a2 a3 true a0_0 a0_1 a0_2 a0_3 a0_4) else ((geom_Zones.f a0_0 a0_1 a0_2 a0_3 a0_4).bind fun t127 => (if a1 ≥ t127 then (plan_Write.j0 k a1 a2 a3 true a0_0 a0_1 a0_2 a0_3 a0_4) else (if a2 < 0 then (plan_Write.j0 k a1 a2 a3 true a0_0 a0_1 a0_2 a0_3 a0_4) else (if a3 < 1 then (plan_Write.j0 k a1 a2 a3 true a0_0 a0_1 a0_2 a0_3 a0_4) else ((geom_Capacity.f a0_0 a0_1 a0_2 a0_3 a0_4).bind fun t128 => (if a2 > t128 then (plan_Write.j0 k a1 a2 a3 true a0_0 a0_1 a0_2 a0_3 a0_4) else ((geom_Capacity.f a0_0 a0_1 a0_2 a0_3 a0_4).bind fun t129 => (plan_Write.j0 k a1 a2 a3 (decide (a3 > (wrap64 (t129 - a2)))) a0_0 a0_1 a0_2 a0_3 a0_4))))))))) else (some (([] : List (S37)), 1)))
theorem plan_Write.mono_l : ∀ k, (∀ y0 y1 y2 y3 y4 y5 y6 y7 y8, LeO (plan_Write.j0 k y0 y1 y2 y3 y4 y5 y6 y7 y8) (plan_Write.j0 (k + 1) y0 y1 y2 y3 y4 y5 y6 y7 y8)) ∧ (∀ y0 y1 y2 y3 y4 y5 y6 y7 y8 y9 y10, LeO (plan_Write.l0 k y0 y1 y2 y3 y4 y5 y6 y7 y8 y9 y10) (plan_Write.l0 (k + 1) y0 y1 y2 y3 y4 y5 y6 y7 y8 y9 y10)) ∧ (∀ y0 y1 y2 y3 y4 y5 y6 y7 y8 y9 y10 y11 y12 y13 y14 y15, LeO (plan_Write.l1 k y0 y1 y2 y3 y4 y5 y6 y7 y8 y9 y10 y11 y12 y13 y14 y15) (plan_Write.l1 (k + 1) y0 y1 y2 y3 y4 y5 y6 y7 y8 y9 y10 y11 y12 y13 y14 y15))
  | 0 => ⟨fun _ _ _ _ _ _ _ _ _ r h => by simp [plan_Write.j0] at h, fun _ _ _ _ _ _ _ _ _ _ _ r h => by simp [plan_Write.l0] at h, fun _ _ _ _ _ _ _ _ _ _ _ _ _ _ _ _ r h => by simp [plan_Write.l1] at h⟩
  | k + 1 => by
    obtain ⟨ih0, ih1, ih2⟩ := plan_Write.mono_l k
    refine ⟨?_, ?_, ?_⟩
    · intro y0 y1 y2 y3 y4 y5 y6 y7 y8
      unfold plan_Write.j0
      repeat' first
      | (with_reducible exact ih0 _ _ _ _ _ _ _ _ _)
      | (with_reducible exact ih1 _ _ _ _ _ _ _ _ _ _ _)
      | (with_reducible exact ih2 _ _ _ _ _ _ _ _ _ _ _ _ _ _ _ _)
      | (with_reducible exact stripe_Pieces.mono _ _ _ _)
      | (with_reducible exact LeO.refl _)
      | (with_reducible exact LeO.none _)
      | (with_reducible refine LeO.ite ?_ ?_)
      | (with_reducible refine LeO.bind ?_ (fun _ => ?_))
      | exact ih0 _ _ _ _ _ _ _ _ _
      | exact ih1 _ _ _ _ _ _ _ _ _ _ _
      | exact ih2 _ _ _ _ _ _ _ _ _ _ _ _ _ _ _ _
      | exact stripe_Pieces.mono _ _ _ _
      | exact LeO.none _
      | refine LeO.ite ?_ ?_
      | refine LeO.bind ?_ (fun _ => ?_)
    · intro y0 y1 y2 y3 y4 y5 y6 y7 y8 y9 y10
      unfold plan_Write.l0
      repeat' first
      | (with_reducible exact ih0 _ _ _ _ _ _ _ _ _)
      | (with_reducible exact ih1 _ _ _ _ _ _ _ _ _ _ _)
      | (with_reducible exact ih2 _ _ _ _ _ _ _ _ _ _ _ _ _ _ _ _)
      | (with_reducible exact stripe_Pieces.mono _ _ _ _)
      | (with_reducible exact LeO.refl _)
      | (with_reducible exact LeO.none _)
      | (with_reducible refine LeO.ite ?_ ?_)
      | (with_reducible refine LeO.bind ?_ (fun _ => ?_))
      | exact ih0 _ _ _ _ _ _ _ _ _
      | exact ih1 _ _ _ _ _ _ _ _ _ _ _
      | exact ih2 _ _ _ _ _ _ _ _ _ _ _ _ _ _ _ _
      | exact stripe_Pieces.mono _ _ _ _
      | exact LeO.none _
      | refine LeO.ite ?_ ?_
      | refine LeO.bind ?_ (fun _ => ?_)
    · intro y0 y1 y2 y3 y4 y5 y6 y7 y8 y9 y10 y11 y12 y13 y14 y15
      unfold plan_Write.l1
      repeat' first
      | (with_reducible exact ih0 _ _ _ _ _ _ _ _ _)
      | (with_reducible exact ih1 _ _ _ _ _ _ _ _ _ _ _)
      | (with_reducible exact ih2 _ _ _ _ _ _ _ _ _ _ _ _ _ _ _ _)
      | (with_reducible exact stripe_Pieces.mono _ _ _ _)
      | (with_reducible exact LeO.refl _)
      | (with_reducible exact LeO.none _)
      | (with_reducible refine LeO.ite ?_ ?_)
      | (with_reducible refine LeO.bind ?_ (fun _ => ?_))
      | exact ih0 _ _ _ _ _ _ _ _ _
      | exact ih1 _ _ _ _ _ _ _ _ _ _ _
      | exact ih2 _ _ _ _ _ _ _ _ _ _ _ _ _ _ _ _
      | exact stripe_Pieces.mono _ _ _ _
      | exact LeO.none _
      | refine LeO.ite ?_ ?_
      | refine LeO.bind ?_ (fun _ => ?_)
theorem plan_Write.mono : ∀ a0 a1 a2 a3 a4 a5 a6 a7 k, LeO (plan_Write.f k a0 a1 a2 a3 a4 a5 a6 a7) (plan_Write.f (k + 1) a0 a1 a2 a3 a4 a5 a6 a7) := by
  intro a0 a1 a2 a3 a4 a5 a6 a7 k
  obtain ⟨ih0, ih1, ih2⟩ := plan_Write.mono_l k
  unfold plan_Write.f
  repeat' first
      | (with_reducible exact ih0 _ _ _ _ _ _ _ _ _)
      | (with_reducible exact ih1 _ _ _ _ _ _ _ _ _ _ _)
      | (with_reducible exact ih2 _ _ _ _ _ _ _ _ _ _ _ _ _ _ _ _)
      | (with_reducible exact stripe_Pieces.mono _ _ _ _)
      | (with_reducible exact LeO.refl _)
      | (with_reducible exact LeO.none _)
      | (with_reducible refine LeO.ite ?_ ?_)
      | (with_reducible refine LeO.bind ?_ (fun _ => ?_))
      | exact ih0 _ _ _ _ _ _ _ _ _
      | exact ih1 _ _ _ _ _ _ _ _ _ _ _
      | exact ih2 _ _ _ _ _ _ _ _ _ _ _ _ _ _ _ _
      | exact stripe_Pieces.mono _ _ _ _
      | exact LeO.none _
      | refine LeO.ite ?_ ?_
      | refine LeO.bind ?_ (fun _ => ?_)
def plan_Write.T16 : Bool × List (List Nat × List Nat) := (true, [([], []), ([], []), ([], []), ([2], [2]), ([0, 1, 3], [0, 1, 3]), ([], []), ([5], [5]), ([4, 6], [4, 6]), ([], []), ([8, 7, 4, 0, 1, 2, 3, 4, 5, 6, 7, 8], [7, 8])])
def plan_Write.B16 : List Nat := [0, 0, 0, 4, 15, 0, 32, 127, 0, 511]
theorem plan_Write.tab16 : rtab .any (opsOf Try.f16 16) = plan_Write.T16 := by kernel_rfl
theorem plan_Write.bits16 : waitsOk plan_Write.T16.2 plan_Write.B16 = true := by kernel_rfl
set_option maxHeartbeats 8000000 in
set_option maxRecDepth 100000 in
theorem plan_Write.calls (k : Nat) (a0_0 : Int) (a0_1 : Int) (a0_2 : Int) (a0_3 : Int) (a0_4 : Int) (a1 : Int) (a2 : Int) (a3 : Int) (r1 : List (S37)) (r2 : Int) (w : World) (h : plan_Write.f k a0_0 a0_1 a0_2 a0_3 a0_4 a1 a2 a3 = some (r1, r2)) :
    Calls Try.prog 16 #[.agg #[.int .i64 a0_0, .int .i64 a0_1, .int .i64 a0_2, .int .i64 a0_3, .int .i64 a0_4], .int .i64 a1, .int .i64 a2, .int .i64 a3] w fun e w' => ∃ v0_ : Value, e = .returned (.tuple #[v0_, .int .i64 r2]) ∧ Kd.R k37 37 w' w.heap.size (fun _ => True) v0_ r1 ∧ Below w.heap.size w w' := by
  have hu30 := Try.underlying30
  have hu86 := Try.underlying86
  have hu37 := Try.underlying37
  have HB := Aside0.mk (Below.refl w.heap.size w)
  have H : ((geom_Good.f a0_0 a0_1 a0_2 a0_3 a0_4).bind fun t126 => (if t126 = true then (if a1 < 0 then (plan_Write.j0 k a1 a2 a3 true a0_0 a0_1 a0_2 a0_3 a0_4) else ((geom_Zones.f a0_0 a0_1 a0_2 a0_3 a0_4).bind fun t127 => (if a1 ≥ t127 then (plan_Write.j0 k a1 a2 a3 true a0_0 a0_1 a0_2 a0_3 a0_4) else (if a2 < 0 then (plan_Write.j0 k a1 a2 a3 true a0_0 a0_1 a0_2 a0_3 a0_4) else (if a3 < 1 then (plan_Write.j0 k a1 a2 a3 true a0_0 a0_1 a0_2 a0_3 a0_4) else ((geom_Capacity.f a0_0 a0_1 a0_2 a0_3 a0_4).bind fun t128 => (if a2 > t128 then (plan_Write.j0 k a1 a2 a3 true a0_0 a0_1 a0_2 a0_3 a0_4) else ((geom_Capacity.f a0_0 a0_1 a0_2 a0_3 a0_4).bind fun t129 => (plan_Write.j0 k a1 a2 a3 (decide (a3 > (wrap64 (t129 - a2)))) a0_0 a0_1 a0_2 a0_3 a0_4))))))))) else (some (([] : List (S37)), 1)))) = some (r1, r2) := h
  clear h
  replace H := Option.bind_eq_some_iff.mp H
  obtain ⟨t126, A50, H⟩ := H
  replace H : (if t126 = true then (if a1 < 0 then (plan_Write.j0 k a1 a2 a3 true a0_0 a0_1 a0_2 a0_3 a0_4) else ((geom_Zones.f a0_0 a0_1 a0_2 a0_3 a0_4).bind fun t127 => (if a1 ≥ t127 then (plan_Write.j0 k a1 a2 a3 true a0_0 a0_1 a0_2 a0_3 a0_4) else (if a2 < 0 then (plan_Write.j0 k a1 a2 a3 true a0_0 a0_1 a0_2 a0_3 a0_4) else (if a3 < 1 then (plan_Write.j0 k a1 a2 a3 true a0_0 a0_1 a0_2 a0_3 a0_4) else ((geom_Capacity.f a0_0 a0_1 a0_2 a0_3 a0_4).bind fun t128 => (if a2 > t128 then (plan_Write.j0 k a1 a2 a3 true a0_0 a0_1 a0_2 a0_3 a0_4) else ((geom_Capacity.f a0_0 a0_1 a0_2 a0_3 a0_4).bind fun t129 => (plan_Write.j0 k a1 a2 a3 (decide (a3 > (wrap64 (t129 - a2)))) a0_0 a0_1 a0_2 a0_3 a0_4))))))))) else (some (([] : List (S37)), 1))) = some (r1, r2) := H
  have A5 := Aside0.mk A50
  clear A50
  by_cases c6 : t126 = true
  · subst c6
    have H1 : (if a1 < 0 then (plan_Write.j0 k a1 a2 a3 true a0_0 a0_1 a0_2 a0_3 a0_4) else ((geom_Zones.f a0_0 a0_1 a0_2 a0_3 a0_4).bind fun t127 => (if a1 ≥ t127 then (plan_Write.j0 k a1 a2 a3 true a0_0 a0_1 a0_2 a0_3 a0_4) else (if a2 < 0 then (plan_Write.j0 k a1 a2 a3 true a0_0 a0_1 a0_2 a0_3 a0_4) else (if a3 < 1 then (plan_Write.j0 k a1 a2 a3 true a0_0 a0_1 a0_2 a0_3 a0_4) else ((geom_Capacity.f a0_0 a0_1 a0_2 a0_3 a0_4).bind fun t128 => (if a2 > t128 then (plan_Write.j0 k a1 a2 a3 true a0_0 a0_1 a0_2 a0_3 a0_4) else ((geom_Capacity.f a0_0 a0_1 a0_2 a0_3 a0_4).bind fun t129 => (plan_Write.j0 k a1 a2 a3 (decide (a3 > (wrap64 (t129 - a2)))) a0_0 a0_1 a0_2 a0_3 a0_4))))))))) = some (r1, r2) := by rw [if_pos rfl] at H; exact H
    clear H
    have H := H1
    clear H1
    have HC7 := Aside0.mk H
    clear H
    go_enter Try.func16, Try.ntmps16
    go_upto_region 3 with (first | ((with_reducible refine gate_dst (N := 4) rfl ?_); refine box_event ?hg (N := 4) ?hd (cs := #[.int .i64 a0_0, .int .i64 a0_1, .int .i64 a0_2, .int .i64 a0_3, .int .i64 a0_4]) (t := 30) ?hr ?_; (case hd => rfl); (case hg => rfl); (case hr => first | (go_simp; done) | (go_simp; rfl)); intro gb125 hg w8 hbox hb; have n0_ := Aside0.mk (below_step (by repeat (first | (with_reducible first | exact HB.out | apply below_alloc | apply pw_below_drewN | apply below_drew1) | exact HB.out)) hb); have n1_ := Aside0.mk (hbox); have n2_ := Aside0.mk ((by rw [hg]; exact (below_size (by repeat (first | (with_reducible first | exact HB.out | apply below_alloc | apply pw_below_drewN | apply below_drew1) | exact HB.out))) : w.heap.size ≤ gb125)); have n3_ := Aside0.mk ((by rw [hg]; exact (below_size (by repeat (first | (with_reducible first | exact HB.out | apply below_alloc | apply pw_below_drewN | apply below_drew1) | exact HB.out))) : w.heap.size ≤ gb125)); clear HB; have HB := n0_; have BK125 := n1_; have GW125 := n2_; have GE125 := n3_; clear n0_ n1_ n2_ n3_; clear hb hbox hg; have hcz9_0 : w8.cell? ⟨gb125, 0, none⟩ = some (.int .i64 a0_0) := (blk_cell BK125.out 0).trans rfl; have hcz9_1 : w8.cell? ⟨gb125, 1, none⟩ = some (.int .i64 a0_1) := (blk_cell BK125.out 1).trans rfl; have hcz9_2 : w8.cell? ⟨gb125, 2, none⟩ = some (.int .i64 a0_2) := (blk_cell BK125.out 2).trans rfl; have hcz9_3 : w8.cell? ⟨gb125, 3, none⟩ = some (.int .i64 a0_3) := (blk_cell BK125.out 3).trans rfl; have hcz9_4 : w8.cell? ⟨gb125, 4, none⟩ = some (.int .i64 a0_4) := (blk_cell BK125.out 4).trans rfl; have hfz9_0 := blk_frozen BK125.out 0; have hfz9_1 := blk_frozen BK125.out 1; have hfz9_2 := blk_frozen BK125.out 2; have hfz9_3 := blk_frozen BK125.out 3; have hfz9_4 := blk_frozen BK125.out 4) | ((with_reducible refine gate_callee (f := 36) rfl ?_); refine goesL_ (some 22) rfl rfl Try.func36 (by kernel_rfl) rfl #[.agg #[.int .i64 a0_0, .int .i64 a0_1, .int .i64 a0_2, .int .i64 a0_3, .int .i64 a0_4]] rfl (by (try simp only [List.map_toArray, List.map_cons, List.map_nil]); first | done | rfl | (simp only [List.length_drop, List.length_take]; rfl)) ?_; (with_reducible refine (geom_Good.calls a0_0 a0_1 a0_2 a0_3 a0_4 true _ A5.out).mono ?_); rintro e w10 ⟨rfl, hb⟩; refine ⟨_, rfl, ?_⟩; have n0_ := Aside0.mk (blk_below (g := gb125) (o := .cells #[.int .i64 a0_0, .int .i64 a0_1, .int .i64 a0_2, .int .i64 a0_3, .int .i64 a0_4] 30 (0, 0)) (by (with_reducible repeat (first | refine blk_drewN ?_ _ | refine blk_drew ?_ | refine blk_alloc ?_ _)); exact BK125.out) hb); have n1_ := Aside0.mk (below_step (by repeat (first | (with_reducible first | exact HB.out | apply below_alloc | apply pw_below_drewN | apply below_drew1 | refine below_set ?_ GE125.out) | exact HB.out)) hb); clear BK125; clear HB; have BK125 := n0_; have HB := n1_; clear n0_ n1_; (try clear hb); (try clear hb2); (try clear hk); (try clear hi)))
    (try simp only [Act.put, List.setIfInBounds_toArray, List.set_cons_zero, List.set_cons_succ])
    go_cut [53] (fun v53 wc => ∃ (kq : Nat) (x53_6 : Bool), v53 = .bool x53_6 ∧ Aside0 (plan_Write.j0 kq a1 a2 a3 x53_6 a0_0 a0_1 a0_2 a0_3 a0_4 = some (r1, r2)) ∧ Aside0 (kq ≤ k) ∧ Aside0 (wc.heap[gb125]? = some (.cells #[.int .i64 a0_0, .int .i64 a0_1, .int .i64 a0_2, .int .i64 a0_3, .int .i64 a0_4] 30 (0, 0))) ∧ Aside0 (Below w.heap.size w wc))
    case first =>
      have H := HC7.out
      clear HC7
      by_cases c11 : a1 < 0
      · rw [if_pos c11] at H
        have c11b0 : decide (a1 < 0) = true := decide_eq_true c11
        clear c11
        (first | rw [c11b0] | (simp only [i64_w, i32_w]; rw [c11b0]) | skip)
        have H' := Aside0.mk H
        clear H
        go_wp2
        go_meet
        case rel => exact ⟨_, (true), (by first | rfl | (simp; done) | (simp [*]; done)), H', ⟨by first | omega | exact Nat.le_refl _⟩, ⟨by (with_reducible repeat (first | refine blk_drewN ?_ _ | refine blk_drew ?_ | refine blk_alloc ?_ _)); exact BK125.out⟩, ⟨by repeat (first | (with_reducible first | exact HB.out | apply below_alloc | apply pw_below_drewN | apply below_drew1 | refine below_set ?_ GE125.out) | exact HB.out)⟩⟩
      · rw [if_neg c11] at H
        have c11b0 : decide (a1 < 0) = false := decide_eq_false c11
        clear c11
        (first | rw [c11b0] | (simp only [i64_w, i32_w]; rw [c11b0]) | skip)
        replace H := Option.bind_eq_some_iff.mp H
        obtain ⟨t127, A120, H⟩ := H
        replace H : (if a1 ≥ t127 then (plan_Write.j0 k a1 a2 a3 true a0_0 a0_1 a0_2 a0_3 a0_4) else (if a2 < 0 then (plan_Write.j0 k a1 a2 a3 true a0_0 a0_1 a0_2 a0_3 a0_4) else (if a3 < 1 then (plan_Write.j0 k a1 a2 a3 true a0_0 a0_1 a0_2 a0_3 a0_4) else ((geom_Capacity.f a0_0 a0_1 a0_2 a0_3 a0_4).bind fun t128 => (if a2 > t128 then (plan_Write.j0 k a1 a2 a3 true a0_0 a0_1 a0_2 a0_3 a0_4) else ((geom_Capacity.f a0_0 a0_1 a0_2 a0_3 a0_4).bind fun t129 => (plan_Write.j0 k a1 a2 a3 (decide (a3 > (wrap64 (t129 - a2)))) a0_0 a0_1 a0_2 a0_3 a0_4))))))) = some (r1, r2) := H
        have A12 := Aside0.mk A120
        clear A120
        by_cases c13 : a1 ≥ t127
        · rw [if_pos c13] at H
          have c13b0 : decide (t127 ≤ a1) = true := decide_eq_true c13
          clear c13
          have H' := Aside0.mk H
          clear H
          have hcz14_0 : w10.cell? ⟨gb125, 0, none⟩ = some (.int .i64 a0_0) := (blk_cell BK125.out 0).trans rfl
          have hcz14_1 : w10.cell? ⟨gb125, 1, none⟩ = some (.int .i64 a0_1) := (blk_cell BK125.out 1).trans rfl
          have hcz14_2 : w10.cell? ⟨gb125, 2, none⟩ = some (.int .i64 a0_2) := (blk_cell BK125.out 2).trans rfl
          have hcz14_3 : w10.cell? ⟨gb125, 3, none⟩ = some (.int .i64 a0_3) := (blk_cell BK125.out 3).trans rfl
          have hcz14_4 : w10.cell? ⟨gb125, 4, none⟩ = some (.int .i64 a0_4) := (blk_cell BK125.out 4).trans rfl
          have hfz14_0 := blk_frozen BK125.out 0
          have hfz14_1 := blk_frozen BK125.out 1
          have hfz14_2 := blk_frozen BK125.out 2
          have hfz14_3 := blk_frozen BK125.out 3
          have hfz14_4 := blk_frozen BK125.out 4
          go_wp2_with (first | (go_at_call 24; (with_reducible refine (geom_Zones.calls a0_0 a0_1 a0_2 a0_3 a0_4 t127 _ A12.out).mono ?_); rintro e w15 ⟨rfl, hb⟩; have n0_ := Aside0.mk (blk_below (g := gb125) (o := .cells #[.int .i64 a0_0, .int .i64 a0_1, .int .i64 a0_2, .int .i64 a0_3, .int .i64 a0_4] 30 (0, 0)) (by (with_reducible repeat (first | refine blk_drewN ?_ _ | refine blk_drew ?_ | refine blk_alloc ?_ _)); exact BK125.out) hb); have n1_ := Aside0.mk (below_step (by repeat (first | (with_reducible first | exact HB.out | apply below_alloc | apply pw_below_drewN | apply below_drew1 | refine below_set ?_ GE125.out) | exact HB.out)) hb); clear BK125; clear HB; have BK125 := n0_; have HB := n1_; clear n0_ n1_; (try clear hb); (try clear hb2); (try clear hk); (try clear hi)))
          go_meet
          case rel => exact ⟨_, (true), (by first | rfl | (simp; done) | (simp [*]; done)), H', ⟨by first | omega | exact Nat.le_refl _⟩, ⟨by (with_reducible repeat (first | refine blk_drewN ?_ _ | refine blk_drew ?_ | refine blk_alloc ?_ _)); exact BK125.out⟩, ⟨by repeat (first | (with_reducible first | exact HB.out | apply below_alloc | apply pw_below_drewN | apply below_drew1 | refine below_set ?_ GE125.out) | exact HB.out)⟩⟩
        · rw [if_neg c13] at H
          have c13b0 : decide (t127 ≤ a1) = false := decide_eq_false c13
          clear c13
          by_cases c16 : a2 < 0
          · rw [if_pos c16] at H
            have c16b0 : decide (a2 < 0) = true := decide_eq_true c16
            clear c16
            have H' := Aside0.mk H
            clear H
            have hcz17_0 : w10.cell? ⟨gb125, 0, none⟩ = some (.int .i64 a0_0) := (blk_cell BK125.out 0).trans rfl
            have hcz17_1 : w10.cell? ⟨gb125, 1, none⟩ = some (.int .i64 a0_1) := (blk_cell BK125.out 1).trans rfl
            have hcz17_2 : w10.cell? ⟨gb125, 2, none⟩ = some (.int .i64 a0_2) := (blk_cell BK125.out 2).trans rfl
            have hcz17_3 : w10.cell? ⟨gb125, 3, none⟩ = some (.int .i64 a0_3) := (blk_cell BK125.out 3).trans rfl
            have hcz17_4 : w10.cell? ⟨gb125, 4, none⟩ = some (.int .i64 a0_4) := (blk_cell BK125.out 4).trans rfl
            have hfz17_0 := blk_frozen BK125.out 0
            have hfz17_1 := blk_frozen BK125.out 1
            have hfz17_2 := blk_frozen BK125.out 2
            have hfz17_3 := blk_frozen BK125.out 3
            have hfz17_4 := blk_frozen BK125.out 4
            go_wp2_with (first | (go_at_call 24; (with_reducible refine (geom_Zones.calls a0_0 a0_1 a0_2 a0_3 a0_4 t127 _ A12.out).mono ?_); rintro e w18 ⟨rfl, hb⟩; have n0_ := Aside0.mk (blk_below (g := gb125) (o := .cells #[.int .i64 a0_0, .int .i64 a0_1, .int .i64 a0_2, .int .i64 a0_3, .int .i64 a0_4] 30 (0, 0)) (by (with_reducible repeat (first | refine blk_drewN ?_ _ | refine blk_drew ?_ | refine blk_alloc ?_ _)); exact BK125.out) hb); have n1_ := Aside0.mk (below_step (by repeat (first | (with_reducible first | exact HB.out | apply below_alloc | apply pw_below_drewN | apply below_drew1 | refine below_set ?_ GE125.out) | exact HB.out)) hb); clear BK125; clear HB; have BK125 := n0_; have HB := n1_; clear n0_ n1_; (try clear hb); (try clear hb2); (try clear hk); (try clear hi)))
            go_meet
            case rel => exact ⟨_, (true), (by first | rfl | (simp; done) | (simp [*]; done)), H', ⟨by first | omega | exact Nat.le_refl _⟩, ⟨by (with_reducible repeat (first | refine blk_drewN ?_ _ | refine blk_drew ?_ | refine blk_alloc ?_ _)); exact BK125.out⟩, ⟨by repeat (first | (with_reducible first | exact HB.out | apply below_alloc | apply pw_below_drewN | apply below_drew1 | refine below_set ?_ GE125.out) | exact HB.out)⟩⟩
          · rw [if_neg c16] at H
            have c16b0 : decide (a2 < 0) = false := decide_eq_false c16
            clear c16
            by_cases c19 : a3 < 1
            · rw [if_pos c19] at H
              have c19b0 : decide (a3 < 1) = true := decide_eq_true c19
              clear c19
              have H' := Aside0.mk H
              clear H
              have hcz20_0 : w10.cell? ⟨gb125, 0, none⟩ = some (.int .i64 a0_0) := (blk_cell BK125.out 0).trans rfl
              have hcz20_1 : w10.cell? ⟨gb125, 1, none⟩ = some (.int .i64 a0_1) := (blk_cell BK125.out 1).trans rfl
              have hcz20_2 : w10.cell? ⟨gb125, 2, none⟩ = some (.int .i64 a0_2) := (blk_cell BK125.out 2).trans rfl
              have hcz20_3 : w10.cell? ⟨gb125, 3, none⟩ = some (.int .i64 a0_3) := (blk_cell BK125.out 3).trans rfl
              have hcz20_4 : w10.cell? ⟨gb125, 4, none⟩ = some (.int .i64 a0_4) := (blk_cell BK125.out 4).trans rfl
              have hfz20_0 := blk_frozen BK125.out 0
              have hfz20_1 := blk_frozen BK125.out 1
              have hfz20_2 := blk_frozen BK125.out 2
              have hfz20_3 := blk_frozen BK125.out 3
              have hfz20_4 := blk_frozen BK125.out 4
              go_wp2_with (first | (go_at_call 24; (with_reducible refine (geom_Zones.calls a0_0 a0_1 a0_2 a0_3 a0_4 t127 _ A12.out).mono ?_); rintro e w21 ⟨rfl, hb⟩; have n0_ := Aside0.mk (blk_below (g := gb125) (o := .cells #[.int .i64 a0_0, .int .i64 a0_1, .int .i64 a0_2, .int .i64 a0_3, .int .i64 a0_4] 30 (0, 0)) (by (with_reducible repeat (first | refine blk_drewN ?_ _ | refine blk_drew ?_ | refine blk_alloc ?_ _)); exact BK125.out) hb); have n1_ := Aside0.mk (below_step (by repeat (first | (with_reducible first | exact HB.out | apply below_alloc | apply pw_below_drewN | apply below_drew1 | refine below_set ?_ GE125.out) | exact HB.out)) hb); clear BK125; clear HB; have BK125 := n0_; have HB := n1_; clear n0_ n1_; (try clear hb); (try clear hb2); (try clear hk); (try clear hi)))
              go_meet
              case rel => exact ⟨_, (true), (by first | rfl | (simp; done) | (simp [*]; done)), H', ⟨by first | omega | exact Nat.le_refl _⟩, ⟨by (with_reducible repeat (first | refine blk_drewN ?_ _ | refine blk_drew ?_ | refine blk_alloc ?_ _)); exact BK125.out⟩, ⟨by repeat (first | (with_reducible first | exact HB.out | apply below_alloc | apply pw_below_drewN | apply below_drew1 | refine below_set ?_ GE125.out) | exact HB.out)⟩⟩
            · rw [if_neg c19] at H
              have c19b0 : decide (a3 < 1) = false := decide_eq_false c19
              clear c19
              replace H := Option.bind_eq_some_iff.mp H
              obtain ⟨t128, A220, H⟩ := H
              replace H : (if a2 > t128 then (plan_Write.j0 k a1 a2 a3 true a0_0 a0_1 a0_2 a0_3 a0_4) else ((geom_Capacity.f a0_0 a0_1 a0_2 a0_3 a0_4).bind fun t129 => (plan_Write.j0 k a1 a2 a3 (decide (a3 > (wrap64 (t129 - a2)))) a0_0 a0_1 a0_2 a0_3 a0_4))) = some (r1, r2) := H
              have A22 := Aside0.mk A220
              clear A220
              by_cases c23 : a2 > t128
              · rw [if_pos c23] at H
                have c23b0 : decide (t128 < a2) = true := decide_eq_true c23
                clear c23
                have H' := Aside0.mk H
                clear H
                have hcz24_0 : w10.cell? ⟨gb125, 0, none⟩ = some (.int .i64 a0_0) := (blk_cell BK125.out 0).trans rfl
                have hcz24_1 : w10.cell? ⟨gb125, 1, none⟩ = some (.int .i64 a0_1) := (blk_cell BK125.out 1).trans rfl
                have hcz24_2 : w10.cell? ⟨gb125, 2, none⟩ = some (.int .i64 a0_2) := (blk_cell BK125.out 2).trans rfl
                have hcz24_3 : w10.cell? ⟨gb125, 3, none⟩ = some (.int .i64 a0_3) := (blk_cell BK125.out 3).trans rfl
                have hcz24_4 : w10.cell? ⟨gb125, 4, none⟩ = some (.int .i64 a0_4) := (blk_cell BK125.out 4).trans rfl
                have hfz24_0 := blk_frozen BK125.out 0
                have hfz24_1 := blk_frozen BK125.out 1
                have hfz24_2 := blk_frozen BK125.out 2
                have hfz24_3 := blk_frozen BK125.out 3
                have hfz24_4 := blk_frozen BK125.out 4
                go_wp2_with (first | (go_at_call 24; (with_reducible refine (geom_Zones.calls a0_0 a0_1 a0_2 a0_3 a0_4 t127 _ A12.out).mono ?_); rintro e w25 ⟨rfl, hb⟩; have n0_ := Aside0.mk (blk_below (g := gb125) (o := .cells #[.int .i64 a0_0, .int .i64 a0_1, .int .i64 a0_2, .int .i64 a0_3, .int .i64 a0_4] 30 (0, 0)) (by (with_reducible repeat (first | refine blk_drewN ?_ _ | refine blk_drew ?_ | refine blk_alloc ?_ _)); exact BK125.out) hb); have n1_ := Aside0.mk (below_step (by repeat (first | (with_reducible first | exact HB.out | apply below_alloc | apply pw_below_drewN | apply below_drew1 | refine below_set ?_ GE125.out) | exact HB.out)) hb); clear BK125; clear HB; have BK125 := n0_; have HB := n1_; clear n0_ n1_; (try clear hb); (try clear hb2); (try clear hk); (try clear hi); have hcz26_0 : w25.cell? ⟨gb125, 0, none⟩ = some (.int .i64 a0_0) := (blk_cell BK125.out 0).trans rfl; have hcz26_1 : w25.cell? ⟨gb125, 1, none⟩ = some (.int .i64 a0_1) := (blk_cell BK125.out 1).trans rfl; have hcz26_2 : w25.cell? ⟨gb125, 2, none⟩ = some (.int .i64 a0_2) := (blk_cell BK125.out 2).trans rfl; have hcz26_3 : w25.cell? ⟨gb125, 3, none⟩ = some (.int .i64 a0_3) := (blk_cell BK125.out 3).trans rfl; have hcz26_4 : w25.cell? ⟨gb125, 4, none⟩ = some (.int .i64 a0_4) := (blk_cell BK125.out 4).trans rfl; have hfz26_0 := blk_frozen BK125.out 0; have hfz26_1 := blk_frozen BK125.out 1; have hfz26_2 := blk_frozen BK125.out 2; have hfz26_3 := blk_frozen BK125.out 3; have hfz26_4 := blk_frozen BK125.out 4) | (go_at_call 25; (with_reducible refine (geom_Capacity.calls a0_0 a0_1 a0_2 a0_3 a0_4 t128 _ A22.out).mono ?_); rintro e w27 ⟨rfl, hb⟩; have n0_ := Aside0.mk (blk_below (g := gb125) (o := .cells #[.int .i64 a0_0, .int .i64 a0_1, .int .i64 a0_2, .int .i64 a0_3, .int .i64 a0_4] 30 (0, 0)) (by (with_reducible repeat (first | refine blk_drewN ?_ _ | refine blk_drew ?_ | refine blk_alloc ?_ _)); exact BK125.out) hb); have n1_ := Aside0.mk (below_step (by repeat (first | (with_reducible first | exact HB.out | apply below_alloc | apply pw_below_drewN | apply below_drew1 | refine below_set ?_ GE125.out) | exact HB.out)) hb); clear BK125; clear HB; have BK125 := n0_; have HB := n1_; clear n0_ n1_; (try clear hb); (try clear hb2); (try clear hk); (try clear hi)))
                go_meet
                case rel => exact ⟨_, (true), (by first | rfl | (simp; done) | (simp [*]; done)), H', ⟨by first | omega | exact Nat.le_refl _⟩, ⟨by (with_reducible repeat (first | refine blk_drewN ?_ _ | refine blk_drew ?_ | refine blk_alloc ?_ _)); exact BK125.out⟩, ⟨by repeat (first | (with_reducible first | exact HB.out | apply below_alloc | apply pw_below_drewN | apply below_drew1 | refine below_set ?_ GE125.out) | exact HB.out)⟩⟩
              · rw [if_neg c23] at H
                have c23b0 : decide (t128 < a2) = false := decide_eq_false c23
                clear c23
                replace H := Option.bind_eq_some_iff.mp H
                obtain ⟨t129, A280, H⟩ := H
                replace H : (plan_Write.j0 k a1 a2 a3 (decide (a3 > (wrap64 (t129 - a2)))) a0_0 a0_1 a0_2 a0_3 a0_4) = some (r1, r2) := H
                have A28 := Aside0.mk A280
                clear A280
                have hbe29 := Aside0.mk (Option.some.inj (A28.out.symm.trans A22.out))
                have H' := Aside0.mk H
                clear H
                have hcz30_0 : w10.cell? ⟨gb125, 0, none⟩ = some (.int .i64 a0_0) := (blk_cell BK125.out 0).trans rfl
                have hcz30_1 : w10.cell? ⟨gb125, 1, none⟩ = some (.int .i64 a0_1) := (blk_cell BK125.out 1).trans rfl
                have hcz30_2 : w10.cell? ⟨gb125, 2, none⟩ = some (.int .i64 a0_2) := (blk_cell BK125.out 2).trans rfl
                have hcz30_3 : w10.cell? ⟨gb125, 3, none⟩ = some (.int .i64 a0_3) := (blk_cell BK125.out 3).trans rfl
                have hcz30_4 : w10.cell? ⟨gb125, 4, none⟩ = some (.int .i64 a0_4) := (blk_cell BK125.out 4).trans rfl
                have hfz30_0 := blk_frozen BK125.out 0
                have hfz30_1 := blk_frozen BK125.out 1
                have hfz30_2 := blk_frozen BK125.out 2
                have hfz30_3 := blk_frozen BK125.out 3
                have hfz30_4 := blk_frozen BK125.out 4
                go_wp2_with (first | (go_at_call 24; (with_reducible refine (geom_Zones.calls a0_0 a0_1 a0_2 a0_3 a0_4 t127 _ A12.out).mono ?_); rintro e w31 ⟨rfl, hb⟩; have n0_ := Aside0.mk (blk_below (g := gb125) (o := .cells #[.int .i64 a0_0, .int .i64 a0_1, .int .i64 a0_2, .int .i64 a0_3, .int .i64 a0_4] 30 (0, 0)) (by (with_reducible repeat (first | refine blk_drewN ?_ _ | refine blk_drew ?_ | refine blk_alloc ?_ _)); exact BK125.out) hb); have n1_ := Aside0.mk (below_step (by repeat (first | (with_reducible first | exact HB.out | apply below_alloc | apply pw_below_drewN | apply below_drew1 | refine below_set ?_ GE125.out) | exact HB.out)) hb); clear BK125; clear HB; have BK125 := n0_; have HB := n1_; clear n0_ n1_; (try clear hb); (try clear hb2); (try clear hk); (try clear hi); have hcz32_0 : w31.cell? ⟨gb125, 0, none⟩ = some (.int .i64 a0_0) := (blk_cell BK125.out 0).trans rfl; have hcz32_1 : w31.cell? ⟨gb125, 1, none⟩ = some (.int .i64 a0_1) := (blk_cell BK125.out 1).trans rfl; have hcz32_2 : w31.cell? ⟨gb125, 2, none⟩ = some (.int .i64 a0_2) := (blk_cell BK125.out 2).trans rfl; have hcz32_3 : w31.cell? ⟨gb125, 3, none⟩ = some (.int .i64 a0_3) := (blk_cell BK125.out 3).trans rfl; have hcz32_4 : w31.cell? ⟨gb125, 4, none⟩ = some (.int .i64 a0_4) := (blk_cell BK125.out 4).trans rfl; have hfz32_0 := blk_frozen BK125.out 0; have hfz32_1 := blk_frozen BK125.out 1; have hfz32_2 := blk_frozen BK125.out 2; have hfz32_3 := blk_frozen BK125.out 3; have hfz32_4 := blk_frozen BK125.out 4) | (go_at_call 25; (with_reducible refine (geom_Capacity.calls a0_0 a0_1 a0_2 a0_3 a0_4 t128 _ A22.out).mono ?_); rintro e w33 ⟨rfl, hb⟩; have n0_ := Aside0.mk (blk_below (g := gb125) (o := .cells #[.int .i64 a0_0, .int .i64 a0_1, .int .i64 a0_2, .int .i64 a0_3, .int .i64 a0_4] 30 (0, 0)) (by (with_reducible repeat (first | refine blk_drewN ?_ _ | refine blk_drew ?_ | refine blk_alloc ?_ _)); exact BK125.out) hb); have n1_ := Aside0.mk (below_step (by repeat (first | (with_reducible first | exact HB.out | apply below_alloc | apply pw_below_drewN | apply below_drew1 | refine below_set ?_ GE125.out) | exact HB.out)) hb); clear BK125; clear HB; have BK125 := n0_; have HB := n1_; clear n0_ n1_; (try clear hb); (try clear hb2); (try clear hk); (try clear hi); have hcz34_0 : w33.cell? ⟨gb125, 0, none⟩ = some (.int .i64 a0_0) := (blk_cell BK125.out 0).trans rfl; have hcz34_1 : w33.cell? ⟨gb125, 1, none⟩ = some (.int .i64 a0_1) := (blk_cell BK125.out 1).trans rfl; have hcz34_2 : w33.cell? ⟨gb125, 2, none⟩ = some (.int .i64 a0_2) := (blk_cell BK125.out 2).trans rfl; have hcz34_3 : w33.cell? ⟨gb125, 3, none⟩ = some (.int .i64 a0_3) := (blk_cell BK125.out 3).trans rfl; have hcz34_4 : w33.cell? ⟨gb125, 4, none⟩ = some (.int .i64 a0_4) := (blk_cell BK125.out 4).trans rfl; have hfz34_0 := blk_frozen BK125.out 0; have hfz34_1 := blk_frozen BK125.out 1; have hfz34_2 := blk_frozen BK125.out 2; have hfz34_3 := blk_frozen BK125.out 3; have hfz34_4 := blk_frozen BK125.out 4) | (go_at_call 25; (with_reducible refine (geom_Capacity.calls a0_0 a0_1 a0_2 a0_3 a0_4 t129 _ A28.out).mono ?_); rintro e w35 ⟨rfl, hb⟩; have n0_ := Aside0.mk (blk_below (g := gb125) (o := .cells #[.int .i64 a0_0, .int .i64 a0_1, .int .i64 a0_2, .int .i64 a0_3, .int .i64 a0_4] 30 (0, 0)) (by (with_reducible repeat (first | refine blk_drewN ?_ _ | refine blk_drew ?_ | refine blk_alloc ?_ _)); exact BK125.out) hb); have n1_ := Aside0.mk (below_step (by repeat (first | (with_reducible first | exact HB.out | apply below_alloc | apply pw_below_drewN | apply below_drew1 | refine below_set ?_ GE125.out) | exact HB.out)) hb); clear BK125; clear HB; have BK125 := n0_; have HB := n1_; clear n0_ n1_; (try clear hb); (try clear hb2); (try clear hk); (try clear hi)))
                go_meet
                case rel => exact ⟨_, (decide (a3 > (wrap64 (t129 - a2)))), (by first | rfl | (simp only [hbe29.out] <;> (first | done | rfl | simp)) | (simp; done) | (simp [*]; done)), H', ⟨by first | omega | exact Nat.le_refl _⟩, ⟨by (with_reducible repeat (first | refine blk_drewN ?_ _ | refine blk_drew ?_ | refine blk_alloc ?_ _)); exact BK125.out⟩, ⟨by repeat (first | (with_reducible first | exact HB.out | apply below_alloc | apply pw_below_drewN | apply below_drew1 | refine below_set ?_ GE125.out) | exact HB.out)⟩⟩
    case rest =>
      clear HC7
      try clear c1
      try clear c2
      try clear p2
      try clear c3
      try clear c6
      try clear p6
      try clear c11
      try clear c11b0
      try clear c13
      try clear c13b0
      try clear c16
      try clear c16b0
      try clear c19
      try clear c19b0
      try clear c23
      try clear c23b0
      try clear hcz14_0
      try clear hcz14_1
      try clear hcz14_2
      try clear hcz14_3
      try clear hcz14_4
      try clear hcz17_0
      try clear hcz17_1
      try clear hcz17_2
      try clear hcz17_3
      try clear hcz17_4
      try clear hcz20_0
      try clear hcz20_1
      try clear hcz20_2
      try clear hcz20_3
      try clear hcz20_4
      try clear hcz24_0
      try clear hcz24_1
      try clear hcz24_2
      try clear hcz24_3
      try clear hcz24_4
      try clear hcz26_0
      try clear hcz26_1
      try clear hcz26_2
      try clear hcz26_3
      try clear hcz26_4
      try clear hcz30_0
      try clear hcz30_1
      try clear hcz30_2
      try clear hcz30_3
      try clear hcz30_4
      try clear hcz32_0
      try clear hcz32_1
      try clear hcz32_2
      try clear hcz32_3
      try clear hcz32_4
      try clear hcz34_0
      try clear hcz34_1
      try clear hcz34_2
      try clear hcz34_3
      try clear hcz34_4
      try clear hcz9_0
      try clear hcz9_1
      try clear hcz9_2
      try clear hcz9_3
      try clear hcz9_4
      try clear hfz14_0
      try clear hfz14_1
      try clear hfz14_2
      try clear hfz14_3
      try clear hfz14_4
      try clear hfz17_0
      try clear hfz17_1
      try clear hfz17_2
      try clear hfz17_3
      try clear hfz17_4
      try clear hfz20_0
      try clear hfz20_1
      try clear hfz20_2
      try clear hfz20_3
      try clear hfz20_4
      try clear hfz24_0
      try clear hfz24_1
      try clear hfz24_2
      try clear hfz24_3
      try clear hfz24_4
      try clear hfz26_0
      try clear hfz26_1
      try clear hfz26_2
      try clear hfz26_3
      try clear hfz26_4
      try clear hfz30_0
      try clear hfz30_1
      try clear hfz30_2
      try clear hfz30_3
      try clear hfz30_4
      try clear hfz32_0
      try clear hfz32_1
      try clear hfz32_2
      try clear hfz32_3
      try clear hfz32_4
      try clear hfz34_0
      try clear hfz34_1
      try clear hfz34_2
      try clear hfz34_3
      try clear hfz34_4
      try clear hfz9_0
      try clear hfz9_1
      try clear hfz9_2
      try clear hfz9_3
      try clear hfz9_4
      obtain ⟨kq, x53_6, rfl, HA, HJ6, BK125, HB⟩ := hcut
      cases kq with
      | zero => exact absurd HA.out (by simp [plan_Write.j0])
      | succ kj6 =>
        have H := HA.out
        clear HA
        simp only [plan_Write.j0] at H
        by_cases c36 : x53_6 = true
        · subst c36
          have H1 : (some (([] : List (S37)), 2)) = some (r1, r2) := by rw [if_pos rfl] at H; exact H
          clear H
          have H := H1
          clear H1
          simp only [Option.some.injEq, Prod.mk.injEq] at H
          obtain ⟨rfl, rfl⟩ := H
          go_wp2
          all_goals go_ret2
          all_goals exact ⟨_, by first | rfl | (simp [errW_none, errW_some] <;> rfl) | (simp [*, errW_none, errW_some] <;> rfl), by first | exact Kd.R_nil _ _ _ _ _ | exact Kd.N_nil _ _ _ _ _ | exact Kd.V_nil _ _ _ _ _ | exact Kd.Q_nil _ _ _ _ _ | exact Kd.S_nil _ _ _ _ _, by repeat (first | (with_reducible first | exact HB.out | apply below_alloc | apply pw_below_drewN | apply below_drew1 | refine below_set ?_ GE125.out) | exact HB.out)⟩
        · replace c36 := Bool.eq_false_iff.mpr c36
          subst c36
          have H1 : ((stripe_Pieces.f kj6 (wrap64 (a0_0 - 1)) a2 a3).bind fun t130 => (plan_Write.l0 kj6 a1 ([] : List (S37)) (wrap64 (a0_0 - 1)) t130 (t130.length : Int) 0 a0_0 a0_1 a0_2 a0_3 a0_4)) = some (r1, r2) := by rw [if_neg (show ¬ (false = true) by decide)] at H; exact H
          clear H
          have H := H1
          clear H1
          replace H := Option.bind_eq_some_iff.mp H
          obtain ⟨t130, A370, H⟩ := H
          replace H : (plan_Write.l0 kj6 a1 ([] : List (S37)) (wrap64 (a0_0 - 1)) t130 (t130.length : Int) 0 a0_0 a0_1 a0_2 a0_3 a0_4) = some (r1, r2) := H
          have A37 := Aside0.mk A370
          clear A370
          have H' := Aside0.mk H
          clear H
          have hcz38_0 : wc.cell? ⟨gb125, 0, none⟩ = some (.int .i64 a0_0) := (blk_cell BK125.out 0).trans rfl
          have hcz38_1 : wc.cell? ⟨gb125, 1, none⟩ = some (.int .i64 a0_1) := (blk_cell BK125.out 1).trans rfl
          have hcz38_2 : wc.cell? ⟨gb125, 2, none⟩ = some (.int .i64 a0_2) := (blk_cell BK125.out 2).trans rfl
          have hcz38_3 : wc.cell? ⟨gb125, 3, none⟩ = some (.int .i64 a0_3) := (blk_cell BK125.out 3).trans rfl
          have hcz38_4 : wc.cell? ⟨gb125, 4, none⟩ = some (.int .i64 a0_4) := (blk_cell BK125.out 4).trans rfl
          have hfz38_0 := blk_frozen BK125.out 0
          have hfz38_1 := blk_frozen BK125.out 1
          have hfz38_2 := blk_frozen BK125.out 2
          have hfz38_3 := blk_frozen BK125.out 3
          have hfz38_4 := blk_frozen BK125.out 4
          go_wp2_with (first | ((with_reducible refine gate_callee (f := 37) rfl ?_); refine goesL_ (some 60) rfl rfl Try.func37 (by kernel_rfl) rfl #[.int .i64 (wrap64 (a0_0 - 1)), .int .i64 a2, .int .i64 a3] rfl (by (try simp only [List.map_toArray, List.map_cons, List.map_nil]); first | done | rfl | (simp only [List.length_drop, List.length_take]; rfl)) ?_; (with_reducible refine (stripe_Pieces.calls kj6 (wrap64 (a0_0 - 1)) a2 a3 t130 _ A37.out).mono ?_); rintro e w39 ⟨v131, rfl, ho0, hb⟩; refine ⟨_, rfl, ?_⟩; have n0_ := Aside0.mk (Kd.R_lower ho0 (below_size (by repeat (first | (with_reducible first | exact HB.out | apply below_alloc | apply pw_below_drewN | apply below_drew1 | refine below_set ?_ GE125.out) | exact HB.out)))); have n1_ := Aside0.mk (blk_below (g := gb125) (o := .cells #[.int .i64 a0_0, .int .i64 a0_1, .int .i64 a0_2, .int .i64 a0_3, .int .i64 a0_4] 30 (0, 0)) (by (with_reducible repeat (first | refine blk_drewN ?_ _ | refine blk_drew ?_ | refine blk_alloc ?_ _)); exact BK125.out) hb); have n2_ := Aside0.mk (below_step (by repeat (first | (with_reducible first | exact HB.out | apply below_alloc | apply pw_below_drewN | apply below_drew1 | refine below_set ?_ GE125.out) | exact HB.out)) hb); clear BK125; clear HB; have HO132 := n0_; have BK125 := n1_; have HB := n2_; clear n0_ n1_ n2_; (try clear hb); (try clear hb2); (try clear hk); (try clear hi); (try clear ho0); obtain ⟨Ao40, co40, eo40⟩ := Kd.R_slice HO132.out; subst eo40))
          go_loopg [10, 62] kj6 (fun kq v10 v62 w' => ∃ (x10_2 : List (S37)) (x62_2 : Int), v62 = .int .i64 x62_2 ∧ Aside0 (plan_Write.l0 kq a1 x10_2 (wrap64 (a0_0 - 1)) t130 (t130.length : Int) x62_2 a0_0 a0_1 a0_2 a0_3 a0_4 = some (r1, r2)) ∧ Aside0 (kq ≤ kj6) ∧ Aside0 (Kd.R k37 37 w' w.heap.size (fun _ => True) v10 x10_2) ∧ Aside0 (Kd.R k86 86 w' w.heap.size (fun _ => True) (.slice Ao40 t130.length co40) t130) ∧ Aside0 (w'.heap[gb125]? = some (.cells #[.int .i64 a0_0, .int .i64 a0_1, .int .i64 a0_2, .int .i64 a0_3, .int .i64 a0_4] 30 (0, 0))) ∧ Aside0 (Below w.heap.size w w'))
          case atStart => exact ⟨(([] : List (S37))), (0), (by first | rfl | (simp; done) | (simp [*]; done)), H', ⟨Nat.le_refl _⟩, ⟨by first | exact Kd.R_nil _ _ _ _ _ | exact Kd.N_nil _ _ _ _ _ | exact Kd.V_nil _ _ _ _ _ | exact Kd.Q_nil _ _ _ _ _ | exact Kd.S_nil _ _ _ _ _⟩, ⟨by (with_reducible repeat (first | apply Kd.R_alloc | apply Kd.R_drewN | apply Kd.R_drew)); exact HO132.out⟩, ⟨by (with_reducible repeat (first | refine blk_drewN ?_ _ | refine blk_drew ?_ | refine blk_alloc ?_ _)); exact BK125.out⟩, ⟨by repeat (first | (with_reducible first | exact HB.out | apply below_alloc | apply pw_below_drewN | apply below_drew1 | refine below_set ?_ GE125.out) | exact HB.out)⟩⟩
          case round =>
            clear H'
            try clear c1
            try clear c2
            try clear p2
            try clear c3
            try clear c6
            try clear p6
            try clear c11
            try clear c11b0
            try clear c13
            try clear c13b0
            try clear c16
            try clear c16b0
            try clear c19
            try clear c19b0
            try clear c23
            try clear c23b0
            try clear c36
            try clear c37
            try clear hcz14_0
            try clear hcz14_1
            try clear hcz14_2
            try clear hcz14_3
            try clear hcz14_4
            try clear hcz17_0
            try clear hcz17_1
            try clear hcz17_2
            try clear hcz17_3
            try clear hcz17_4
            try clear hcz20_0
            try clear hcz20_1
            try clear hcz20_2
            try clear hcz20_3
            try clear hcz20_4
            try clear hcz24_0
            try clear hcz24_1
            try clear hcz24_2
            try clear hcz24_3
            try clear hcz24_4
            try clear hcz26_0
            try clear hcz26_1
            try clear hcz26_2
            try clear hcz26_3
            try clear hcz26_4
            try clear hcz30_0
            try clear hcz30_1
            try clear hcz30_2
            try clear hcz30_3
            try clear hcz30_4
            try clear hcz32_0
            try clear hcz32_1
            try clear hcz32_2
            try clear hcz32_3
            try clear hcz32_4
            try clear hcz34_0
            try clear hcz34_1
            try clear hcz34_2
            try clear hcz34_3
            try clear hcz34_4
            try clear hcz38_0
            try clear hcz38_1
            try clear hcz38_2
            try clear hcz38_3
            try clear hcz38_4
            try clear hcz9_0
            try clear hcz9_1
            try clear hcz9_2
            try clear hcz9_3
            try clear hcz9_4
            try clear hfz14_0
            try clear hfz14_1
            try clear hfz14_2
            try clear hfz14_3
            try clear hfz14_4
            try clear hfz17_0
            try clear hfz17_1
            try clear hfz17_2
            try clear hfz17_3
            try clear hfz17_4
            try clear hfz20_0
            try clear hfz20_1
            try clear hfz20_2
            try clear hfz20_3
            try clear hfz20_4
            try clear hfz24_0
            try clear hfz24_1
            try clear hfz24_2
            try clear hfz24_3
            try clear hfz24_4
            try clear hfz26_0
            try clear hfz26_1
            try clear hfz26_2
            try clear hfz26_3
            try clear hfz26_4
            try clear hfz30_0
            try clear hfz30_1
            try clear hfz30_2
            try clear hfz30_3
            try clear hfz30_4
            try clear hfz32_0
            try clear hfz32_1
            try clear hfz32_2
            try clear hfz32_3
            try clear hfz32_4
            try clear hfz34_0
            try clear hfz34_1
            try clear hfz34_2
            try clear hfz34_3
            try clear hfz34_4
            try clear hfz38_0
            try clear hfz38_1
            try clear hfz38_2
            try clear hfz38_3
            try clear hfz38_4
            try clear hfz9_0
            try clear hfz9_1
            try clear hfz9_2
            try clear hfz9_3
            try clear hfz9_4
            try clear p2
            try clear p6
            obtain ⟨x10_2, x62_2, rfl, HA, HK2, HO_10, HO_60, BK125, HB⟩ := hrel
            cases gk with
            | zero => exact absurd HA.out (by simp [plan_Write.l0])
            | succ k2 =>
              have H := HA.out
              clear HA
              simp only [plan_Write.l0] at H
              by_cases c41 : x62_2 < (t130.length : Int)
              · rw [if_pos c41] at H
                have c41b0 : decide (x62_2 < (t130.length : Int)) = true := decide_eq_true c41
                clear c41
                by_cases c42 : 0 ≤ x62_2
                · rw [if_pos c42] at H
                  have c42b0 : decide (0 ≤ x62_2) = true := decide_eq_true c42
                  clear c42
                  by_cases c43 : x62_2 < (t130.length : Int)
                  · rw [if_pos c43] at H
                    have c43b0 : decide (x62_2 < (t130.length : Int)) = true := decide_eq_true c43
                    clear c43
                    have H' := Aside0.mk H
                    clear H
                    have p133 : 0 ≤ (x62_2 : Int) := of_decide_eq_true (by first | (with_reducible assumption) | assumption)
                    have q133 : x62_2 < (t130.length : Int) := of_decide_eq_true (by first | (with_reducible assumption) | assumption)
                    obtain ⟨ad133, e133, hx133_0, hx133_1, hx133_2⟩ := at_T86 (Kd.R_reads' HO_60.out).2.2 x62_2 p133 q133
                    cases e133
                    replace p133 := eq_true p133
                    replace q133 := eq_true q133
                    go_wp2_with (first | ((with_reducible refine gate_dst (N := 13) rfl ?_); refine box_event ?hg (N := 13) ?hd (cs := #[.int .i64 0, .int .i64 0, .int .i64 0]) (t := 86) ?hr ?_; (case hd => rfl); (case hg => rfl); (case hr => first | (go_simp; done) | (go_simp; rfl)); intro gb134 hg w44 hbox hb; have n0_ := Aside0.mk (Kd.R_below (by (with_reducible repeat (first | apply Kd.R_alloc | apply Kd.R_drewN | apply Kd.R_drew)); exact HO_10.out) hb); have n1_ := Aside0.mk (Kd.R_below (Kd.R_elderB (by (with_reducible repeat (first | apply Kd.R_alloc | apply Kd.R_drewN | apply Kd.R_drew)); exact HO_60.out) gb134 (Nat.le_of_eq hg.symm)) hb); have n2_ := Aside0.mk (blk_below (g := gb125) (o := .cells #[.int .i64 a0_0, .int .i64 a0_1, .int .i64 a0_2, .int .i64 a0_3, .int .i64 a0_4] 30 (0, 0)) (by (with_reducible repeat (first | refine blk_drewN ?_ _ | refine blk_drew ?_ | refine blk_alloc ?_ _)); exact BK125.out) hb); have n3_ := Aside0.mk (below_step (by repeat (first | (with_reducible first | exact HB.out | apply below_alloc | apply pw_below_drewN | apply below_drew1 | refine below_set ?_ GE125.out) | exact HB.out)) hb); have n4_ := Aside0.mk (hbox); have n5_ := Aside0.mk ((by rw [hg]; exact (below_size (by repeat (first | (with_reducible first | exact HB.out | apply below_alloc | apply pw_below_drewN | apply below_drew1 | refine below_set ?_ GE125.out) | exact HB.out))) : w.heap.size ≤ gb134)); have n6_ := Aside0.mk ((by rw [hg]; exact (below_size (by repeat (first | (with_reducible first | exact HB.out | apply below_alloc | apply pw_below_drewN | apply below_drew1 | refine below_set ?_ GE125.out) | exact HB.out))) : w.heap.size ≤ gb134)); have n7_ := Aside0.mk ((by rw [hg]; exact Nat.ne_of_lt (blk_lt (g := gb125) (o := .cells #[.int .i64 a0_0, .int .i64 a0_1, .int .i64 a0_2, .int .i64 a0_3, .int .i64 a0_4] 30 (0, 0)) (by (with_reducible repeat (first | refine blk_drewN ?_ _ | refine blk_drew ?_ | refine blk_alloc ?_ _)); exact BK125.out)) : gb125 ≠ gb134)); have n8_ := Aside0.mk ((by rw [hg]; exact Nat.ne_of_gt (blk_lt (g := gb125) (o := .cells #[.int .i64 a0_0, .int .i64 a0_1, .int .i64 a0_2, .int .i64 a0_3, .int .i64 a0_4] 30 (0, 0)) (by (with_reducible repeat (first | refine blk_drewN ?_ _ | refine blk_drew ?_ | refine blk_alloc ?_ _)); exact BK125.out)) : gb134 ≠ gb125)); clear HO_10; clear HO_60; clear BK125; clear HB; have HO_10 := n0_; have HO_60 := n1_; have BK125 := n2_; have HB := n3_; have BK134 := n4_; have GW134 := n5_; have GE134 := n6_; have NB125_134 := n7_; have NB134_125 := n8_; clear n0_ n1_ n2_ n3_ n4_ n5_ n6_ n7_ n8_; clear hb hbox hg; have hnb45 := NB134_125.out; have hnc45 := NB125_134.out; have hcz46_0 : w44.cell? ⟨gb134, 0, none⟩ = some (.int .i64 0) := (blk_cell BK134.out 0).trans rfl; have hcz46_1 : w44.cell? ⟨gb134, 1, none⟩ = some (.int .i64 0) := (blk_cell BK134.out 1).trans rfl; have hcz46_2 : w44.cell? ⟨gb134, 2, none⟩ = some (.int .i64 0) := (blk_cell BK134.out 2).trans rfl; have hfz46_0 := blk_frozen BK134.out 0; have hfz46_1 := blk_frozen BK134.out 1; have hfz46_2 := blk_frozen BK134.out 2))
                    go_loopg [10, 15] k2 (fun kq v10 v15 w' => ∃ (x10_3 : List (S37)) (x15_3 : Int), v15 = .int .i64 x15_3 ∧ Aside0 (plan_Write.l1 kq a1 x10_3 (wrap64 (a0_0 - 1)) (wrap64 ((wrap64 (((rd_T86 t130 x62_2).f0) * (wrap64 (a0_0 - 1)))) + ((rd_T86 t130 x62_2).f1))) x15_3 t130 (t130.length : Int) x62_2 a0_0 a0_1 a0_2 a0_3 a0_4 ((rd_T86 t130 x62_2).f0) ((rd_T86 t130 x62_2).f1) ((rd_T86 t130 x62_2).f2) = some (r1, r2)) ∧ Aside0 (kq ≤ k2) ∧ Aside0 (Kd.R k37 37 w' w.heap.size (fun _ => True) v10 x10_3) ∧ Aside0 (Kd.R k86 86 w' w.heap.size (fun k_ => k_ ≠ gb134) (.slice (some ad133) t130.length co40) t130) ∧ Aside0 (w'.heap[gb125]? = some (.cells #[.int .i64 a0_0, .int .i64 a0_1, .int .i64 a0_2, .int .i64 a0_3, .int .i64 a0_4] 30 (0, 0))) ∧ Aside0 (w'.heap[gb134]? = some (.cells #[.int .i64 ((rd_T86 t130 x62_2).f0), .int .i64 ((rd_T86 t130 x62_2).f1), .int .i64 ((rd_T86 t130 x62_2).f2)] 86 (0, 0))) ∧ Aside0 (Below w.heap.size w w'))
                    case atStart => exact ⟨(x10_2), (wrap64 ((wrap64 (((rd_T86 t130 x62_2).f0) * (wrap64 (a0_0 - 1)))) + ((rd_T86 t130 x62_2).f1))), (by first | rfl | (simp; done) | (simp [*]; done)), H', ⟨Nat.le_refl _⟩, ⟨by (with_reducible repeat (first | apply Kd.R_alloc | apply Kd.R_drewN | apply Kd.R_drew)); exact Kd.R_mono (Kd.R_far (p := ⟨gb134, 2, none⟩) (Kd.R_far (p := ⟨gb134, 1, none⟩) (Kd.R_far (p := ⟨gb134, 0, none⟩) (Kd.R_types HO_10.out BK134.out (by decide)) (fun _ hk => hk.2) (.int .i64 ((rd_T86 t130 x62_2).f0))) (fun _ hk => hk.2) (.int .i64 ((rd_T86 t130 x62_2).f1))) (fun _ hk => hk.2) (.int .i64 ((rd_T86 t130 x62_2).f2))) (fun _ hk => trivial)⟩, ⟨by (with_reducible repeat (first | apply Kd.R_alloc | apply Kd.R_drewN | apply Kd.R_drew)); exact Kd.R_mono (Kd.R_far (p := ⟨gb134, 2, none⟩) (Kd.R_far (p := ⟨gb134, 1, none⟩) (Kd.R_far (p := ⟨gb134, 0, none⟩) (Kd.R_mono HO_60.out (fun k_ hk => (⟨hk, hk.2⟩ : _ ∧ k_ ≠ gb134))) (fun _ hk => hk.2) (.int .i64 ((rd_T86 t130 x62_2).f0))) (fun _ hk => hk.2) (.int .i64 ((rd_T86 t130 x62_2).f1))) (fun _ hk => hk.2) (.int .i64 ((rd_T86 t130 x62_2).f2))) (fun _ hk => hk.1.2)⟩, ⟨by (with_reducible repeat (first | refine blk_drewN ?_ _ | refine blk_drew ?_ | refine blk_alloc ?_ _ | refine blk_far ?_ NB125_134.out _)); exact BK125.out⟩, ⟨by (with_reducible repeat (first | refine blk_drewN ?_ _ | refine blk_drew ?_ | refine blk_alloc ?_ _)); refine blk_put (cs := #[.int .i64 ((rd_T86 t130 x62_2).f0), .int .i64 ((rd_T86 t130 x62_2).f1), .int .i64 0]) ?_ 2 _ rfl; (with_reducible repeat (first | refine blk_drewN ?_ _ | refine blk_drew ?_ | refine blk_alloc ?_ _)); refine blk_put (cs := #[.int .i64 ((rd_T86 t130 x62_2).f0), .int .i64 0, .int .i64 0]) ?_ 1 _ rfl; (with_reducible repeat (first | refine blk_drewN ?_ _ | refine blk_drew ?_ | refine blk_alloc ?_ _)); refine blk_put (cs := #[.int .i64 0, .int .i64 0, .int .i64 0]) ?_ 0 _ rfl; (with_reducible repeat (first | refine blk_drewN ?_ _ | refine blk_drew ?_ | refine blk_alloc ?_ _)); exact BK134.out⟩, ⟨by repeat (first | (with_reducible first | exact HB.out | apply below_alloc | apply pw_below_drewN | apply below_drew1 | refine below_set ?_ GE125.out | refine below_set ?_ GE134.out) | exact HB.out)⟩⟩
                    case round =>
                      clear H'
                      try clear c1
                      try clear p1
                      try clear q1
                      try clear hx1
                      try clear c2
                      try clear p2
                      try clear c3
                      try clear c4
                      try clear c6
                      try clear p6
                      try clear c11
                      try clear c11b0
                      try clear c13
                      try clear c13b0
                      try clear p13
                      try clear q13
                      try clear hx13
                      try clear c16
                      try clear c16b0
                      try clear c19
                      try clear c19b0
                      try clear c23
                      try clear c23b0
                      try clear c36
                      try clear c37
                      try clear c41
                      try clear c41b0
                      try clear c42
                      try clear c42b0
                      try clear c43
                      try clear c43b0
                      try clear c45
                      try clear hcz14_0
                      try clear hcz14_1
                      try clear hcz14_2
                      try clear hcz14_3
                      try clear hcz14_4
                      try clear hcz17_0
                      try clear hcz17_1
                      try clear hcz17_2
                      try clear hcz17_3
                      try clear hcz17_4
                      try clear hcz20_0
                      try clear hcz20_1
                      try clear hcz20_2
                      try clear hcz20_3
                      try clear hcz20_4
                      try clear hcz24_0
                      try clear hcz24_1
                      try clear hcz24_2
                      try clear hcz24_3
                      try clear hcz24_4
                      try clear hcz26_0
                      try clear hcz26_1
                      try clear hcz26_2
                      try clear hcz26_3
                      try clear hcz26_4
                      try clear hcz30_0
                      try clear hcz30_1
                      try clear hcz30_2
                      try clear hcz30_3
                      try clear hcz30_4
                      try clear hcz32_0
                      try clear hcz32_1
                      try clear hcz32_2
                      try clear hcz32_3
                      try clear hcz32_4
                      try clear hcz34_0
                      try clear hcz34_1
                      try clear hcz34_2
                      try clear hcz34_3
                      try clear hcz34_4
                      try clear hcz38_0
                      try clear hcz38_1
                      try clear hcz38_2
                      try clear hcz38_3
                      try clear hcz38_4
                      try clear hcz46_0
                      try clear hcz46_1
                      try clear hcz46_2
                      try clear hcz9_0
                      try clear hcz9_1
                      try clear hcz9_2
                      try clear hcz9_3
                      try clear hcz9_4
                      try clear hfz14_0
                      try clear hfz14_1
                      try clear hfz14_2
                      try clear hfz14_3
                      try clear hfz14_4
                      try clear hfz17_0
                      try clear hfz17_1
                      try clear hfz17_2
                      try clear hfz17_3
                      try clear hfz17_4
                      try clear hfz20_0
                      try clear hfz20_1
                      try clear hfz20_2
                      try clear hfz20_3
                      try clear hfz20_4
                      try clear hfz24_0
                      try clear hfz24_1
                      try clear hfz24_2
                      try clear hfz24_3
                      try clear hfz24_4
                      try clear hfz26_0
                      try clear hfz26_1
                      try clear hfz26_2
                      try clear hfz26_3
                      try clear hfz26_4
                      try clear hfz30_0
                      try clear hfz30_1
                      try clear hfz30_2
                      try clear hfz30_3
                      try clear hfz30_4
                      try clear hfz32_0
                      try clear hfz32_1
                      try clear hfz32_2
                      try clear hfz32_3
                      try clear hfz32_4
                      try clear hfz34_0
                      try clear hfz34_1
                      try clear hfz34_2
                      try clear hfz34_3
                      try clear hfz34_4
                      try clear hfz38_0
                      try clear hfz38_1
                      try clear hfz38_2
                      try clear hfz38_3
                      try clear hfz38_4
                      try clear hfz46_0
                      try clear hfz46_1
                      try clear hfz46_2
                      try clear hfz9_0
                      try clear hfz9_1
                      try clear hfz9_2
                      try clear hfz9_3
                      try clear hfz9_4
                      try clear hx133_0
                      try clear hx133_1
                      try clear hx133_2
                      try clear p133
                      try clear p2
                      try clear p6
                      try clear q133
                      obtain ⟨x10_3, x15_3, rfl, HA, HK3, HO_10, HO_60, BK125, BK134, HB⟩ := hrel
                      cases gk with
                      | zero => exact absurd HA.out (by simp [plan_Write.l1])
                      | succ k3 =>
                        have H := HA.out
                        clear HA
                        simp only [plan_Write.l1] at H
                        by_cases c47 : x15_3 < (wrap64 ((wrap64 ((wrap64 (((rd_T86 t130 x62_2).f0) * (wrap64 (a0_0 - 1)))) + ((rd_T86 t130 x62_2).f1))) + ((rd_T86 t130 x62_2).f2)))
                        · rw [if_pos c47] at H
                          have c47b0 : decide (x15_3 < (wrap64 ((wrap64 ((wrap64 (((rd_T86 t130 x62_2).f0) * (wrap64 (a0_0 - 1)))) + ((rd_T86 t130 x62_2).f1))) + ((rd_T86 t130 x62_2).f2)))) = true := decide_eq_true c47
                          clear c47
                          replace H := Option.bind_eq_some_iff.mp H
                          obtain ⟨⟨t135, t136, t137⟩, A480, H⟩ := H
                          replace H : (if x10_3.length < 3518437208883 then (plan_Write.l1 k3 a1 (x10_3 ++ [(⟨1, t136, t135, x15_3, 0⟩ : S37)]) (wrap64 (a0_0 - 1)) (wrap64 ((wrap64 (((rd_T86 t130 x62_2).f0) * (wrap64 (a0_0 - 1)))) + ((rd_T86 t130 x62_2).f1))) (wrap64 (x15_3 + 1)) t130 (t130.length : Int) x62_2 a0_0 a0_1 a0_2 a0_3 a0_4 ((rd_T86 t130 x62_2).f0) ((rd_T86 t130 x62_2).f1) ((rd_T86 t130 x62_2).f2)) else (none)) = some (r1, r2) := H
                          have A48 := Aside0.mk A480
                          clear A480
                          by_cases c49 : x10_3.length < 3518437208883
                          · rw [if_pos c49] at H
                            have LMc49 := Aside0.mk c49
                            clear c49
                            obtain ⟨y138, hy138⟩ : ∃ y_ : List (S37), y_ = (x10_3 ++ [(⟨1, t136, t135, x15_3, 0⟩ : S37)]) := ⟨_, rfl⟩
                            replace H : (plan_Write.l1 k3 a1 y138 (wrap64 (a0_0 - 1)) (wrap64 ((wrap64 (((rd_T86 t130 x62_2).f0) * (wrap64 (a0_0 - 1)))) + ((rd_T86 t130 x62_2).f1))) (wrap64 (x15_3 + 1)) t130 (t130.length : Int) x62_2 a0_0 a0_1 a0_2 a0_3 a0_4 ((rd_T86 t130 x62_2).f0) ((rd_T86 t130 x62_2).f1) ((rd_T86 t130 x62_2).f2)) = some (r1, r2) := by first | (rw [hy138]; with_reducible exact H) | (have H2_ := (Option.bind_some _ _).symm.trans H; rw [hy138]; with_reducible exact H2_) | (have H2_ := (Option.bind_some _ _).symm.trans H; with_reducible exact H2_) | with_reducible exact H | (rw [hy138]; exact H) | exact H
                            have Ny138 := Aside0.mk hy138
                            clear hy138
                            have H' := Aside0.mk H
                            clear H
                            have hnb50 := NB134_125.out
                            have hnc50 := NB125_134.out
                            have hcz51_0 : wr.cell? ⟨gb134, 0, none⟩ = some (.int .i64 ((rd_T86 t130 x62_2).f0)) := (blk_cell BK134.out 0).trans rfl
                            have hcz51_1 : wr.cell? ⟨gb134, 1, none⟩ = some (.int .i64 ((rd_T86 t130 x62_2).f1)) := (blk_cell BK134.out 1).trans rfl
                            have hcz51_2 : wr.cell? ⟨gb134, 2, none⟩ = some (.int .i64 ((rd_T86 t130 x62_2).f2)) := (blk_cell BK134.out 2).trans rfl
                            have hfz51_0 := blk_frozen BK134.out 0
                            have hfz51_1 := blk_frozen BK134.out 1
                            have hfz51_2 := blk_frozen BK134.out 2
                            have hcz52_0 : wr.cell? ⟨gb125, 0, none⟩ = some (.int .i64 a0_0) := (blk_cell BK125.out 0).trans rfl
                            have hcz52_1 : wr.cell? ⟨gb125, 1, none⟩ = some (.int .i64 a0_1) := (blk_cell BK125.out 1).trans rfl
                            have hcz52_2 : wr.cell? ⟨gb125, 2, none⟩ = some (.int .i64 a0_2) := (blk_cell BK125.out 2).trans rfl
                            have hcz52_3 : wr.cell? ⟨gb125, 3, none⟩ = some (.int .i64 a0_3) := (blk_cell BK125.out 3).trans rfl
                            have hcz52_4 : wr.cell? ⟨gb125, 4, none⟩ = some (.int .i64 a0_4) := (blk_cell BK125.out 4).trans rfl
                            have hfz52_0 := blk_frozen BK125.out 0
                            have hfz52_1 := blk_frozen BK125.out 1
                            have hfz52_2 := blk_frozen BK125.out 2
                            have hfz52_3 := blk_frozen BK125.out 3
                            have hfz52_4 := blk_frozen BK125.out 4
                            go_wp2_with (first | ((with_reducible refine gate_callee (f := 38) rfl ?_); refine goesL_ (some 86) rfl rfl Try.func38 (by kernel_rfl) rfl #[.agg #[.int .i64 a0_0, .int .i64 a0_1, .int .i64 a0_2, .int .i64 a0_3, .int .i64 a0_4], .int .i64 a1, .int .i64 x15_3] rfl (by (try simp only [List.map_toArray, List.map_cons, List.map_nil]); first | done | rfl | (simp only [List.length_drop, List.length_take]; rfl)) ?_; (with_reducible refine (geom_Place.calls a0_0 a0_1 a0_2 a0_3 a0_4 a1 x15_3 t135 t136 t137 _ A48.out).mono ?_); rintro e w53 ⟨rfl, hb⟩; refine ⟨_, rfl, ?_⟩; have n0_ := Aside0.mk (Kd.R_below (by (with_reducible repeat (first | apply Kd.R_alloc | apply Kd.R_drewN | apply Kd.R_drew)); exact HO_10.out) hb); have n1_ := Aside0.mk (Kd.R_below (by (with_reducible repeat (first | apply Kd.R_alloc | apply Kd.R_drewN | apply Kd.R_drew)); exact HO_60.out) hb); have n2_ := Aside0.mk (blk_below (g := gb125) (o := .cells #[.int .i64 a0_0, .int .i64 a0_1, .int .i64 a0_2, .int .i64 a0_3, .int .i64 a0_4] 30 (0, 0)) (by (with_reducible repeat (first | refine blk_drewN ?_ _ | refine blk_drew ?_ | refine blk_alloc ?_ _)); exact BK125.out) hb); have n3_ := Aside0.mk (blk_below (g := gb134) (o := .cells #[.int .i64 ((rd_T86 t130 x62_2).f0), .int .i64 ((rd_T86 t130 x62_2).f1), .int .i64 ((rd_T86 t130 x62_2).f2)] 86 (0, 0)) (by (with_reducible repeat (first | refine blk_drewN ?_ _ | refine blk_drew ?_ | refine blk_alloc ?_ _)); exact BK134.out) hb); have n4_ := Aside0.mk (below_step (by repeat (first | (with_reducible first | exact HB.out | apply below_alloc | apply pw_below_drewN | apply below_drew1 | refine below_set ?_ GE125.out | refine below_set ?_ GE134.out) | exact HB.out)) hb); clear HO_10; clear HO_60; clear BK125; clear BK134; clear HB; have HO_10 := n0_; have HO_60 := n1_; have BK125 := n2_; have BK134 := n3_; have HB := n4_; clear n0_ n1_ n2_ n3_ n4_; (try clear hb); (try clear hb2); (try clear hk); (try clear hi)) | ((with_reducible refine gate_builtin (b := .append) (xs := #[.tmp 90, .tmp 95]) rfl ?_); at_builtin; refine Kd.R_append k37 (w0 := w) w.heap.size rfl (.tmp 90) (.tmp 95) 26 37 (.agg #[(.int .i64 0), (.int .i64 0), (.int .i64 0), (.int .i64 0), (.int .i64 0)]) 40 rfl Try.underlying26 info37 rfl (by decide) (by omega) u10 x10_3 (⟨1, t136, t135, x15_3, 0⟩ : S37) [.int .i64 1, .int .i64 t136, .int .i64 t135, .int .i64 x15_3, .int .i64 0] (fun _ => True) (fun _ => False) rfl rfl ?aP (fun _ hk => hk.elim) ?aF ?aO ?aB ?aS ?aL ?_; (case aP => exact k37_mkM _ _ _ (⟨1, t136, t135, x15_3, 0⟩ : S37)); (case aB => exact (by repeat (first | (with_reducible first | exact HB.out | apply below_alloc | apply pw_below_drewN | apply below_drew1 | refine below_set ?_ GE125.out | refine below_set ?_ GE134.out) | exact HB.out))); (case aF => exact (fun _ _ => trivial)); (case aO => exact (by (with_reducible repeat (first | apply Kd.R_alloc | apply Kd.R_drewN | apply Kd.R_drew)); exact HO_10.out)); (case aS => exact (below_size (by repeat (first | (with_reducible first | exact HB.out | apply below_alloc | apply pw_below_drewN | apply below_drew1 | refine below_set ?_ GE125.out | refine below_set ?_ GE134.out) | exact HB.out)))); (case aL => have := LMc49.out; omega); intro v139 w54 ho hb hg hat; rw [← Ny138.out] at ho; have n0_ := Aside0.mk (Kd.R_over' (by (with_reducible repeat (first | apply Kd.R_alloc | apply Kd.R_drewN | apply Kd.R_drew)); exact HO_60.out) (Kd.R_typed (by (with_reducible repeat (first | apply Kd.R_alloc | apply Kd.R_drewN | apply Kd.R_drew)); exact HO_10.out)) (by decide) hg); have n1_ := Aside0.mk (blk_grown (g := gb125) (o := .cells #[.int .i64 a0_0, .int .i64 a0_1, .int .i64 a0_2, .int .i64 a0_3, .int .i64 a0_4] 30 (0, 0)) (by (with_reducible repeat (first | refine blk_drewN ?_ _ | refine blk_drew ?_ | refine blk_alloc ?_ _)); exact BK125.out) hg (Kd.R_ne HO_10.out BK125.out (by decide))); have n2_ := Aside0.mk (blk_grown (g := gb134) (o := .cells #[.int .i64 ((rd_T86 t130 x62_2).f0), .int .i64 ((rd_T86 t130 x62_2).f1), .int .i64 ((rd_T86 t130 x62_2).f2)] 86 (0, 0)) (by (with_reducible repeat (first | refine blk_drewN ?_ _ | refine blk_drew ?_ | refine blk_alloc ?_ _)); exact BK134.out) hg (Kd.R_ne HO_10.out BK134.out (by decide))); have n3_ := Aside0.mk (hb); have n4_ := Aside0.mk (ho); clear HO_60; clear BK125; clear BK134; clear HB; clear HO_10; have HO_60 := n0_; have BK125 := n1_; have BK134 := n2_; have HB := n3_; have HO140 := n4_; clear n0_ n1_ n2_ n3_ n4_; clear ho hb hg hat))
                            go_roundg k3
                            case measure => have := HJ6.out; have := HK2.out; have := HK3.out; omega
                            case rel => exact ⟨(y138), (wrap64 (x15_3 + 1)), (by first | rfl | (simp; done) | (simp [*]; done)), H', ⟨by have := HJ6.out; have := HK2.out; have := HK3.out; omega⟩, ⟨by (with_reducible repeat (first | apply Kd.R_alloc | apply Kd.R_drewN | apply Kd.R_drew)); exact HO140.out⟩, ⟨by (with_reducible repeat (first | apply Kd.R_alloc | apply Kd.R_drewN | apply Kd.R_drew)); exact HO_60.out⟩, ⟨by (with_reducible repeat (first | refine blk_drewN ?_ _ | refine blk_drew ?_ | refine blk_alloc ?_ _)); exact BK125.out⟩, ⟨by (with_reducible repeat (first | refine blk_drewN ?_ _ | refine blk_drew ?_ | refine blk_alloc ?_ _)); exact BK134.out⟩, ⟨by repeat (first | (with_reducible first | exact HB.out | apply below_alloc | apply pw_below_drewN | apply below_drew1 | refine below_set ?_ GE125.out | refine below_set ?_ GE134.out) | exact HB.out)⟩⟩
                          · rw [if_neg c49] at H
                            exact absurd H (by simp)
                        · rw [if_neg c47] at H
                          have c47b0 : decide (x15_3 < (wrap64 ((wrap64 ((wrap64 (((rd_T86 t130 x62_2).f0) * (wrap64 (a0_0 - 1)))) + ((rd_T86 t130 x62_2).f1))) + ((rd_T86 t130 x62_2).f2)))) = false := decide_eq_false c47
                          clear c47
                          replace H := Option.bind_eq_some_iff.mp H
                          obtain ⟨t141, A550, H⟩ := H
                          replace H : (if (wrap64 (((rd_T86 t130 x62_2).f1) + ((rd_T86 t130 x62_2).f2))) < (wrap64 (a0_0 - 1)) then (if x10_3.length < 3518437208883 then (plan_Write.l0 k3 a1 (x10_3 ++ [(⟨3, t141, ((rd_T86 t130 x62_2).f0), 0, wrap64 (((rd_T86 t130 x62_2).f1) + ((rd_T86 t130 x62_2).f2))⟩ : S37)]) (wrap64 (a0_0 - 1)) t130 (t130.length : Int) (wrap64 (x62_2 + 1)) a0_0 a0_1 a0_2 a0_3 a0_4) else (none)) else (if x10_3.length < 3518437208883 then (plan_Write.l0 k3 a1 (x10_3 ++ [(⟨2, t141, ((rd_T86 t130 x62_2).f0), 0, 0⟩ : S37)]) (wrap64 (a0_0 - 1)) t130 (t130.length : Int) (wrap64 (x62_2 + 1)) a0_0 a0_1 a0_2 a0_3 a0_4) else (none))) = some (r1, r2) := H
                          have A55 := Aside0.mk A550
                          clear A550
                          by_cases c56 : (wrap64 (((rd_T86 t130 x62_2).f1) + ((rd_T86 t130 x62_2).f2))) < (wrap64 (a0_0 - 1))
                          · rw [if_pos c56] at H
                            have c56b0 : decide ((wrap64 (((rd_T86 t130 x62_2).f1) + ((rd_T86 t130 x62_2).f2))) < (wrap64 (a0_0 - 1))) = true := decide_eq_true c56
                            clear c56
                            by_cases c57 : x10_3.length < 3518437208883
                            · rw [if_pos c57] at H
                              have LMc57 := Aside0.mk c57
                              clear c57
                              obtain ⟨y143, hy143⟩ : ∃ y_ : List (S37), y_ = (x10_3 ++ [(⟨3, t141, ((rd_T86 t130 x62_2).f0), 0, wrap64 (((rd_T86 t130 x62_2).f1) + ((rd_T86 t130 x62_2).f2))⟩ : S37)]) := ⟨_, rfl⟩
                              replace H : (plan_Write.l0 k3 a1 y143 (wrap64 (a0_0 - 1)) t130 (t130.length : Int) (wrap64 (x62_2 + 1)) a0_0 a0_1 a0_2 a0_3 a0_4) = some (r1, r2) := by first | (rw [hy143]; with_reducible exact H) | (have H2_ := (Option.bind_some _ _).symm.trans H; rw [hy143]; with_reducible exact H2_) | (have H2_ := (Option.bind_some _ _).symm.trans H; with_reducible exact H2_) | with_reducible exact H | (rw [hy143]; exact H) | exact H
                              have Ny143 := Aside0.mk hy143
                              clear hy143
                              have H' := Aside0.mk H
                              clear H
                              have hnb58 := NB134_125.out
                              have hnc58 := NB125_134.out
                              have hcz59_0 : wr.cell? ⟨gb134, 0, none⟩ = some (.int .i64 ((rd_T86 t130 x62_2).f0)) := (blk_cell BK134.out 0).trans rfl
                              have hcz59_1 : wr.cell? ⟨gb134, 1, none⟩ = some (.int .i64 ((rd_T86 t130 x62_2).f1)) := (blk_cell BK134.out 1).trans rfl
                              have hcz59_2 : wr.cell? ⟨gb134, 2, none⟩ = some (.int .i64 ((rd_T86 t130 x62_2).f2)) := (blk_cell BK134.out 2).trans rfl
                              have hfz59_0 := blk_frozen BK134.out 0
                              have hfz59_1 := blk_frozen BK134.out 1
                              have hfz59_2 := blk_frozen BK134.out 2
                              try go_wp2
                              have n0_ := Aside0.mk (Kd.R_drew HO_10.out)
                              have n1_ := Aside0.mk (Kd.R_drew HO_60.out)
                              have n2_ := Aside0.mk (blk_drew BK125.out)
                              have n3_ := Aside0.mk (blk_drew BK134.out)
                              have n4_ := Aside0.mk (below_drew1 HB.out)
                              clear HO_10
                              clear HO_60
                              clear BK125
                              clear BK134
                              clear HB
                              have HO_10 := n0_
                              have HO_60 := n1_
                              have BK125 := n2_
                              have BK134 := n3_
                              have HB := n4_
                              clear n0_ n1_ n2_ n3_ n4_
                              refine start_ (n := 10) (S := fun w' => w'.cell? ⟨gb125, 0, none⟩ = some (.int .i64 a0_0) ∧ w'.cell? ⟨gb125, 1, none⟩ = some (.int .i64 a0_1) ∧ w'.cell? ⟨gb125, 2, none⟩ = some (.int .i64 a0_2) ∧ w'.cell? ⟨gb125, 3, none⟩ = some (.int .i64 a0_3) ∧ w'.cell? ⟨gb125, 4, none⟩ = some (.int .i64 a0_4) ∧ w'.cell? ⟨gb134, 0, none⟩ = some (.int .i64 ((rd_T86 t130 x62_2).f0)) ∧ w'.cell? ⟨gb134, 1, none⟩ = some (.int .i64 ((rd_T86 t130 x62_2).f1)) ∧ w'.cell? ⟨gb134, 2, none⟩ = some (.int .i64 ((rd_T86 t130 x62_2).f2))) (ds := []) #[false, false, false, false, false, false, false, false, false, false] (by kernel_rfl) rfl rfl ⟨(blk_cell BK125.out 0).trans rfl, (blk_cell BK125.out 1).trans rfl, (blk_cell BK125.out 2).trans rfl, (blk_cell BK125.out 3).trans rfl, (blk_cell BK125.out 4).trans rfl, (blk_cell BK134.out 0).trans rfl, (blk_cell BK134.out 1).trans rfl, (blk_cell BK134.out 2).trans rfl⟩ (fun hHeld => ?_); refine with_tabW plan_Write.tab16 plan_Write.bits16 (fun HT_ HW_ => ?_)
                              generalize wr.drew = w60 at HO_10 HO_60 BK125 BK134 HB hHeld ⊢
                              refine pure_ (i := 1) (N := some 98) (v := ?_) (a' := ?_) #[false, true, false, false, false, false, false, false, false, false] rfl rfl (any_of HT_.out (by kernel_rfl)) (fun _ _ _ h => h) (Or.inl ⟨by rfl, ?_⟩) ?_ ?_
                              rotate_left
                              · intro w'
                                go_simp
                                with_reducible rfl
                              rotate_left
                              · simp only [Act.put, List.setIfInBounds_toArray, List.set_cons_zero, List.set_cons_succ, i64_w, i32_w]
                                rfl
                              refine pure_ (i := 2) (N := some 99) (v := ?_) (a' := ?_) #[false, true, true, false, false, false, false, false, false, false] rfl rfl (any_of HT_.out (by kernel_rfl)) (fun _ _ _ h => h) (Or.inl ⟨by rfl, ?_⟩) ?_ ?_
                              rotate_left
                              · intro w'
                                go_simp
                                with_reducible rfl
                              rotate_left
                              · simp only [Act.put, List.setIfInBounds_toArray, List.set_cons_zero, List.set_cons_succ, i64_w, i32_w]
                                rfl
                              refine pure_ (i := 5) (N := some 102) (v := ?_) (a' := ?_) #[false, true, true, false, false, true, false, false, false, false] rfl rfl (any_of HT_.out (by kernel_rfl)) (fun _ _ _ h => h) (Or.inl ⟨by rfl, ?_⟩) ?_ ?_
                              rotate_left
                              · intro w'
                                go_simp
                                with_reducible rfl
                              rotate_left
                              · simp only [Act.put, List.setIfInBounds_toArray, List.set_cons_zero, List.set_cons_succ, i64_w, i32_w]
                                rfl
                              refine take_ (i := 0) (N := some 97) (v := ?_) (a' := ?_) #[true, true, true, false, false, true, false, false, false, false] rfl rfl (take_ofW HT_.out HW_.out (by kernel_rfl)) (fun _ _ _ h => h) (Or.inl ⟨by rfl, ?_⟩) hHeld ?_ ?_
                              rotate_left
                              · rintro w' ⟨s0, s1, s2, s3, s4, s5, s6, s7⟩
                                go_simp
                                with_reducible rfl
                              rotate_left
                              · simp only [Act.put, List.setIfInBounds_toArray, List.set_cons_zero, List.set_cons_succ, i64_w, i32_w]
                                rfl
                              refine take_ (i := 3) (N := some 100) (v := ?_) (a' := ?_) #[true, true, true, true, false, true, false, false, false, false] rfl rfl (take_ofW HT_.out HW_.out (by kernel_rfl)) (fun _ _ _ h => h) (Or.inl ⟨by rfl, ?_⟩) hHeld ?_ ?_
                              rotate_left
                              · rintro w' ⟨s0, s1, s2, s3, s4, s5, s6, s7⟩
                                go_simp
                                with_reducible rfl
                              rotate_left
                              · simp only [Act.put, List.setIfInBounds_toArray, List.set_cons_zero, List.set_cons_succ, i64_w, i32_w]
                                rfl
                              refine take_ (i := 6) (N := some 103) (v := ?_) (a' := ?_) #[true, true, true, true, false, true, true, false, false, false] rfl rfl (take_ofW HT_.out HW_.out (by kernel_rfl)) (fun _ _ _ h => h) (Or.inl ⟨by rfl, ?_⟩) hHeld ?_ ?_
                              rotate_left
                              · rintro w' ⟨s0, s1, s2, s3, s4, s5, s6, s7⟩
                                go_simp
                                with_reducible rfl
                              rotate_left
                              · simp only [Act.put, List.setIfInBounds_toArray, List.set_cons_zero, List.set_cons_succ, i64_w, i32_w]
                                rfl
                              refine join_ (σ := Nat) 1 #[true, true, true, true, true, true, true, true, true, false] (fun s_ => [(101, .int .i64 t141), (19, .pointer (some ⟨s_, 0, none⟩)), (104, .agg #[.int .i64 2, .int .i64 t141, .int .i64 ((rd_T86 t130 x62_2).f0), .int .i64 0, .int .i64 0])]) (fun s_ w' => (w'.cell? ⟨gb125, 0, none⟩ = some (.int .i64 a0_0) ∧ w'.cell? ⟨gb125, 1, none⟩ = some (.int .i64 a0_1) ∧ w'.cell? ⟨gb125, 2, none⟩ = some (.int .i64 a0_2) ∧ w'.cell? ⟨gb125, 3, none⟩ = some (.int .i64 a0_3) ∧ w'.cell? ⟨gb125, 4, none⟩ = some (.int .i64 a0_4) ∧ w'.cell? ⟨gb134, 0, none⟩ = some (.int .i64 ((rd_T86 t130 x62_2).f0)) ∧ w'.cell? ⟨gb134, 1, none⟩ = some (.int .i64 ((rd_T86 t130 x62_2).f1)) ∧ w'.cell? ⟨gb134, 2, none⟩ = some (.int .i64 ((rd_T86 t130 x62_2).f2))) ∧ (Kd.R k37 37 w' w.heap.size (fun k_ => k_ ≠ s_) u10 x10_3) ∧ (Kd.R k86 86 w' w.heap.size (fun k_ => k_ ≠ gb134) (.slice (some ad133) t130.length co40) t130) ∧ (w'.heap[gb125]? = some (.cells #[.int .i64 a0_0, .int .i64 a0_1, .int .i64 a0_2, .int .i64 a0_3, .int .i64 a0_4] 30 (0, 0))) ∧ (w'.heap[gb134]? = some (.cells #[.int .i64 ((rd_T86 t130 x62_2).f0), .int .i64 ((rd_T86 t130 x62_2).f1), .int .i64 ((rd_T86 t130 x62_2).f2)] 86 (0, 0))) ∧ (w'.heap[s_]? = some (.cells #[.int .i64 0, .int .i64 0, .int .i64 0, .int .i64 0, .int .i64 0] 37 (0, 0))) ∧ (w.heap.size ≤ s_) ∧ (w.heap.size ≤ s_) ∧ (gb125 ≠ s_) ∧ (s_ ≠ gb125) ∧ (gb134 ≠ s_) ∧ (s_ ≠ gb134) ∧ (Below w.heap.size w w')) ?_ ?_
                              rotate_left
                              · intro hCont
                                refine two_ (i := 4) (j := 8) (Ni := some 101) (Nj := some 19) #[true, true, true, true, true, true, true, false, false, false] #[true, true, true, true, false, true, true, false, true, false] rfl rfl rfl rfl (two_of HT_.out (by kernel_rfl)) (by decide) (by decide) (fun K hK => ?_) (fun K hK => ?_)
                                · skip
                                  refine goes_ Try.func26 (by kernel_rfl) rfl #[.agg #[.int .i64 a0_0, .int .i64 a0_1, .int .i64 a0_2, .int .i64 a0_3, .int .i64 a0_4], .int .i64 a1, .int .i64 ((rd_T86 t130 x62_2).f0)] (by rfl) rfl rfl (by (try simp only [List.map_toArray, List.map_cons, List.map_nil]); first | done | rfl | (simp only [List.length_drop, List.length_take]; rfl)) ?_
                                  with_reducible refine (geom_Parity.calls a0_0 a0_1 a0_2 a0_3 a0_4 a1 ((rd_T86 t130 x62_2).f0) t141 _ A55.out).mono ?_
                                  rintro e w61 ⟨rfl, hb⟩
                                  refine ⟨_, rfl, ?_⟩
                                  have n0_ := Aside0.mk (Kd.R_below (by (with_reducible repeat (first | apply Kd.R_alloc | apply Kd.R_drewN | apply Kd.R_drew)); exact HO_10.out) hb)
                                  have n1_ := Aside0.mk (Kd.R_below (by (with_reducible repeat (first | apply Kd.R_alloc | apply Kd.R_drewN | apply Kd.R_drew)); exact HO_60.out) hb)
                                  have n2_ := Aside0.mk (blk_below (g := gb125) (o := .cells #[.int .i64 a0_0, .int .i64 a0_1, .int .i64 a0_2, .int .i64 a0_3, .int .i64 a0_4] 30 (0, 0)) (by (with_reducible repeat (first | refine blk_drewN ?_ _ | refine blk_drew ?_ | refine blk_alloc ?_ _)); exact BK125.out) hb)
                                  have n3_ := Aside0.mk (blk_below (g := gb134) (o := .cells #[.int .i64 ((rd_T86 t130 x62_2).f0), .int .i64 ((rd_T86 t130 x62_2).f1), .int .i64 ((rd_T86 t130 x62_2).f2)] 86 (0, 0)) (by (with_reducible repeat (first | refine blk_drewN ?_ _ | refine blk_drew ?_ | refine blk_alloc ?_ _)); exact BK134.out) hb)
                                  have n4_ := Aside0.mk (below_step (by repeat (first | (with_reducible first | exact HB.out | apply below_alloc | apply pw_below_drewN | apply below_drew1 | refine below_set ?_ GE125.out | refine below_set ?_ GE134.out) | exact HB.out)) hb)
                                  clear HO_10
                                  clear HO_60
                                  clear BK125
                                  clear BK134
                                  clear HB
                                  have HO_10 := n0_
                                  have HO_60 := n1_
                                  have BK125 := n2_
                                  have BK134 := n3_
                                  have HB := n4_
                                  clear n0_ n1_ n2_ n3_ n4_
                                  (try clear hb)
                                  (try clear hb2)
                                  (try clear hk)
                                  (try clear hi)
                                  refine hK.out _ _ ⟨(blk_cell BK125.out 0).trans rfl, (blk_cell BK125.out 1).trans rfl, (blk_cell BK125.out 2).trans rfl, (blk_cell BK125.out 3).trans rfl, (blk_cell BK125.out 4).trans rfl, (blk_cell BK134.out 0).trans rfl, (blk_cell BK134.out 1).trans rfl, (blk_cell BK134.out 2).trans rfl⟩ (fun hHeld => ?_)
                                  clear hK K
                                  refine norm_ (a' := ?_) ?_ ?_
                                  rotate_left
                                  · show Act.put _ (some 101) _ = _
                                    simp only [Act.put, List.setIfInBounds_toArray, List.set_cons_zero, List.set_cons_succ, i64_w, i32_w]
                                    rfl
                                  refine pure_ (i := 7) (N := some 104) (v := ?_) (a' := ?_) #[true, true, true, true, true, true, true, true, false, false] rfl rfl (any_of HT_.out (by kernel_rfl)) (fun _ _ _ h => h) (Or.inl ⟨by rfl, ?_⟩) ?_ ?_
                                  rotate_left
                                  · intro w'
                                    go_simp
                                    with_reducible rfl
                                  rotate_left
                                  · simp only [Act.put, List.setIfInBounds_toArray, List.set_cons_zero, List.set_cons_succ, i64_w, i32_w]
                                    rfl
                                  refine one_ (i := 8) (N := some 19) #[true, true, true, true, true, true, true, true, true, false] rfl rfl (one_of HT_.out (by kernel_rfl)) (by decide) (fun K hK => ?_)
                                  refine box_step ?hg (N := 19) ?hd (cs := #[.int .i64 0, .int .i64 0, .int .i64 0, .int .i64 0, .int .i64 0]) (t := 37) ?hr ?_; (case hd => rfl); (case hg => rfl); (case hr => first | (go_simp; done) | (go_simp; rfl))
                                  intro gb142 hg w62 hbox hb
                                  have n0_ := Aside0.mk (Kd.R_below (Kd.R_elderB (by (with_reducible repeat (first | apply Kd.R_alloc | apply Kd.R_drewN | apply Kd.R_drew)); exact HO_10.out) gb142 (Nat.le_of_eq hg.symm)) hb)
                                  have n1_ := Aside0.mk (Kd.R_below (by (with_reducible repeat (first | apply Kd.R_alloc | apply Kd.R_drewN | apply Kd.R_drew)); exact HO_60.out) hb)
                                  have n2_ := Aside0.mk (blk_below (g := gb125) (o := .cells #[.int .i64 a0_0, .int .i64 a0_1, .int .i64 a0_2, .int .i64 a0_3, .int .i64 a0_4] 30 (0, 0)) (by (with_reducible repeat (first | refine blk_drewN ?_ _ | refine blk_drew ?_ | refine blk_alloc ?_ _)); exact BK125.out) hb)
                                  have n3_ := Aside0.mk (blk_below (g := gb134) (o := .cells #[.int .i64 ((rd_T86 t130 x62_2).f0), .int .i64 ((rd_T86 t130 x62_2).f1), .int .i64 ((rd_T86 t130 x62_2).f2)] 86 (0, 0)) (by (with_reducible repeat (first | refine blk_drewN ?_ _ | refine blk_drew ?_ | refine blk_alloc ?_ _)); exact BK134.out) hb)
                                  have n4_ := Aside0.mk (below_step (by repeat (first | (with_reducible first | exact HB.out | apply below_alloc | apply pw_below_drewN | apply below_drew1 | refine below_set ?_ GE125.out | refine below_set ?_ GE134.out) | exact HB.out)) hb)
                                  have n5_ := Aside0.mk (hbox)
                                  have n6_ := Aside0.mk ((by rw [hg]; exact (below_size (by repeat (first | (with_reducible first | exact HB.out | apply below_alloc | apply pw_below_drewN | apply below_drew1 | refine below_set ?_ GE125.out | refine below_set ?_ GE134.out) | exact HB.out))) : w.heap.size ≤ gb142))
                                  have n7_ := Aside0.mk ((by rw [hg]; exact (below_size (by repeat (first | (with_reducible first | exact HB.out | apply below_alloc | apply pw_below_drewN | apply below_drew1 | refine below_set ?_ GE125.out | refine below_set ?_ GE134.out) | exact HB.out))) : w.heap.size ≤ gb142))
                                  have n8_ := Aside0.mk ((by rw [hg]; exact Nat.ne_of_lt (blk_lt (g := gb125) (o := .cells #[.int .i64 a0_0, .int .i64 a0_1, .int .i64 a0_2, .int .i64 a0_3, .int .i64 a0_4] 30 (0, 0)) (by (with_reducible repeat (first | refine blk_drewN ?_ _ | refine blk_drew ?_ | refine blk_alloc ?_ _)); exact BK125.out)) : gb125 ≠ gb142))
                                  have n9_ := Aside0.mk ((by rw [hg]; exact Nat.ne_of_gt (blk_lt (g := gb125) (o := .cells #[.int .i64 a0_0, .int .i64 a0_1, .int .i64 a0_2, .int .i64 a0_3, .int .i64 a0_4] 30 (0, 0)) (by (with_reducible repeat (first | refine blk_drewN ?_ _ | refine blk_drew ?_ | refine blk_alloc ?_ _)); exact BK125.out)) : gb142 ≠ gb125))
                                  have n10_ := Aside0.mk ((by rw [hg]; exact Nat.ne_of_lt (blk_lt (g := gb134) (o := .cells #[.int .i64 ((rd_T86 t130 x62_2).f0), .int .i64 ((rd_T86 t130 x62_2).f1), .int .i64 ((rd_T86 t130 x62_2).f2)] 86 (0, 0)) (by (with_reducible repeat (first | refine blk_drewN ?_ _ | refine blk_drew ?_ | refine blk_alloc ?_ _)); exact BK134.out)) : gb134 ≠ gb142))
                                  have n11_ := Aside0.mk ((by rw [hg]; exact Nat.ne_of_gt (blk_lt (g := gb134) (o := .cells #[.int .i64 ((rd_T86 t130 x62_2).f0), .int .i64 ((rd_T86 t130 x62_2).f1), .int .i64 ((rd_T86 t130 x62_2).f2)] 86 (0, 0)) (by (with_reducible repeat (first | refine blk_drewN ?_ _ | refine blk_drew ?_ | refine blk_alloc ?_ _)); exact BK134.out)) : gb142 ≠ gb134))
                                  clear HO_10
                                  clear HO_60
                                  clear BK125
                                  clear BK134
                                  clear HB
                                  have HO_10 := n0_
                                  have HO_60 := n1_
                                  have BK125 := n2_
                                  have BK134 := n3_
                                  have HB := n4_
                                  have BK142 := n5_
                                  have GW142 := n6_
                                  have GE142 := n7_
                                  have NB125_142 := n8_
                                  have NB142_125 := n9_
                                  have NB134_142 := n10_
                                  have NB142_134 := n11_
                                  clear n0_ n1_ n2_ n3_ n4_ n5_ n6_ n7_ n8_ n9_ n10_ n11_
                                  clear hb hbox hg
                                  refine hK.out _ _ ⟨(blk_cell BK125.out 0).trans rfl, (blk_cell BK125.out 1).trans rfl, (blk_cell BK125.out 2).trans rfl, (blk_cell BK125.out 3).trans rfl, (blk_cell BK125.out 4).trans rfl, (blk_cell BK134.out 0).trans rfl, (blk_cell BK134.out 1).trans rfl, (blk_cell BK134.out 2).trans rfl⟩ (fun hHeld => ?_)
                                  clear hK K
                                  refine norm_ (a' := ?_) ?_ ?_
                                  rotate_left
                                  · show Act.put _ (some 19) _ = _
                                    simp only [Act.put, List.setIfInBounds_toArray, List.set_cons_zero, List.set_cons_succ, i64_w, i32_w]
                                    rfl
                                  exact norm_ (by simp only [putAll, Act.put, List.setIfInBounds_toArray, List.set_cons_zero, List.set_cons_succ]) (hCont (gb142) _ ⟨hHeld, (by (with_reducible repeat (first | apply Kd.R_alloc | apply Kd.R_drewN | apply Kd.R_drew)); exact Kd.R_mono HO_10.out (fun _ hk => hk.2)), (by (with_reducible repeat (first | apply Kd.R_alloc | apply Kd.R_drewN | apply Kd.R_drew)); exact HO_60.out), (by (with_reducible repeat (first | refine blk_drewN ?_ _ | refine blk_drew ?_ | refine blk_alloc ?_ _)); exact BK125.out), (by (with_reducible repeat (first | refine blk_drewN ?_ _ | refine blk_drew ?_ | refine blk_alloc ?_ _)); exact BK134.out), (by (with_reducible repeat (first | refine blk_drewN ?_ _ | refine blk_drew ?_ | refine blk_alloc ?_ _)); exact BK142.out), GW142.out, GE142.out, NB125_142.out, NB142_125.out, NB134_142.out, NB142_134.out, (by repeat (first | (with_reducible first | exact HB.out | apply below_alloc | apply pw_below_drewN | apply below_drew1 | refine below_set ?_ GE125.out | refine below_set ?_ GE134.out | refine below_set ?_ GE142.out) | exact HB.out))⟩)
                                · skip
                                  refine box_step ?hg (N := 19) ?hd (cs := #[.int .i64 0, .int .i64 0, .int .i64 0, .int .i64 0, .int .i64 0]) (t := 37) ?hr ?_; (case hd => rfl); (case hg => rfl); (case hr => first | (go_simp; done) | (go_simp; rfl))
                                  intro gb142 hg w61 hbox hb
                                  have n0_ := Aside0.mk (Kd.R_below (Kd.R_elderB (by (with_reducible repeat (first | apply Kd.R_alloc | apply Kd.R_drewN | apply Kd.R_drew)); exact HO_10.out) gb142 (Nat.le_of_eq hg.symm)) hb)
                                  have n1_ := Aside0.mk (Kd.R_below (by (with_reducible repeat (first | apply Kd.R_alloc | apply Kd.R_drewN | apply Kd.R_drew)); exact HO_60.out) hb)
                                  have n2_ := Aside0.mk (blk_below (g := gb125) (o := .cells #[.int .i64 a0_0, .int .i64 a0_1, .int .i64 a0_2, .int .i64 a0_3, .int .i64 a0_4] 30 (0, 0)) (by (with_reducible repeat (first | refine blk_drewN ?_ _ | refine blk_drew ?_ | refine blk_alloc ?_ _)); exact BK125.out) hb)
                                  have n3_ := Aside0.mk (blk_below (g := gb134) (o := .cells #[.int .i64 ((rd_T86 t130 x62_2).f0), .int .i64 ((rd_T86 t130 x62_2).f1), .int .i64 ((rd_T86 t130 x62_2).f2)] 86 (0, 0)) (by (with_reducible repeat (first | refine blk_drewN ?_ _ | refine blk_drew ?_ | refine blk_alloc ?_ _)); exact BK134.out) hb)
                                  have n4_ := Aside0.mk (below_step (by repeat (first | (with_reducible first | exact HB.out | apply below_alloc | apply pw_below_drewN | apply below_drew1 | refine below_set ?_ GE125.out | refine below_set ?_ GE134.out) | exact HB.out)) hb)
                                  have n5_ := Aside0.mk (hbox)
                                  have n6_ := Aside0.mk ((by rw [hg]; exact (below_size (by repeat (first | (with_reducible first | exact HB.out | apply below_alloc | apply pw_below_drewN | apply below_drew1 | refine below_set ?_ GE125.out | refine below_set ?_ GE134.out) | exact HB.out))) : w.heap.size ≤ gb142))
                                  have n7_ := Aside0.mk ((by rw [hg]; exact (below_size (by repeat (first | (with_reducible first | exact HB.out | apply below_alloc | apply pw_below_drewN | apply below_drew1 | refine below_set ?_ GE125.out | refine below_set ?_ GE134.out) | exact HB.out))) : w.heap.size ≤ gb142))
                                  have n8_ := Aside0.mk ((by rw [hg]; exact Nat.ne_of_lt (blk_lt (g := gb125) (o := .cells #[.int .i64 a0_0, .int .i64 a0_1, .int .i64 a0_2, .int .i64 a0_3, .int .i64 a0_4] 30 (0, 0)) (by (with_reducible repeat (first | refine blk_drewN ?_ _ | refine blk_drew ?_ | refine blk_alloc ?_ _)); exact BK125.out)) : gb125 ≠ gb142))
                                  have n9_ := Aside0.mk ((by rw [hg]; exact Nat.ne_of_gt (blk_lt (g := gb125) (o := .cells #[.int .i64 a0_0, .int .i64 a0_1, .int .i64 a0_2, .int .i64 a0_3, .int .i64 a0_4] 30 (0, 0)) (by (with_reducible repeat (first | refine blk_drewN ?_ _ | refine blk_drew ?_ | refine blk_alloc ?_ _)); exact BK125.out)) : gb142 ≠ gb125))
                                  have n10_ := Aside0.mk ((by rw [hg]; exact Nat.ne_of_lt (blk_lt (g := gb134) (o := .cells #[.int .i64 ((rd_T86 t130 x62_2).f0), .int .i64 ((rd_T86 t130 x62_2).f1), .int .i64 ((rd_T86 t130 x62_2).f2)] 86 (0, 0)) (by (with_reducible repeat (first | refine blk_drewN ?_ _ | refine blk_drew ?_ | refine blk_alloc ?_ _)); exact BK134.out)) : gb134 ≠ gb142))
                                  have n11_ := Aside0.mk ((by rw [hg]; exact Nat.ne_of_gt (blk_lt (g := gb134) (o := .cells #[.int .i64 ((rd_T86 t130 x62_2).f0), .int .i64 ((rd_T86 t130 x62_2).f1), .int .i64 ((rd_T86 t130 x62_2).f2)] 86 (0, 0)) (by (with_reducible repeat (first | refine blk_drewN ?_ _ | refine blk_drew ?_ | refine blk_alloc ?_ _)); exact BK134.out)) : gb142 ≠ gb134))
                                  clear HO_10
                                  clear HO_60
                                  clear BK125
                                  clear BK134
                                  clear HB
                                  have HO_10 := n0_
                                  have HO_60 := n1_
                                  have BK125 := n2_
                                  have BK134 := n3_
                                  have HB := n4_
                                  have BK142 := n5_
                                  have GW142 := n6_
                                  have GE142 := n7_
                                  have NB125_142 := n8_
                                  have NB142_125 := n9_
                                  have NB134_142 := n10_
                                  have NB142_134 := n11_
                                  clear n0_ n1_ n2_ n3_ n4_ n5_ n6_ n7_ n8_ n9_ n10_ n11_
                                  clear hb hbox hg
                                  refine hK.out _ _ ⟨(blk_cell BK125.out 0).trans rfl, (blk_cell BK125.out 1).trans rfl, (blk_cell BK125.out 2).trans rfl, (blk_cell BK125.out 3).trans rfl, (blk_cell BK125.out 4).trans rfl, (blk_cell BK134.out 0).trans rfl, (blk_cell BK134.out 1).trans rfl, (blk_cell BK134.out 2).trans rfl⟩ (fun hHeld => ?_)
                                  clear hK K
                                  refine norm_ (a' := ?_) ?_ ?_
                                  rotate_left
                                  · show Act.put _ (some 19) _ = _
                                    simp only [Act.put, List.setIfInBounds_toArray, List.set_cons_zero, List.set_cons_succ, i64_w, i32_w]
                                    rfl
                                  refine one_ (i := 4) (N := some 101) #[true, true, true, true, true, true, true, false, true, false] rfl rfl (one_of HT_.out (by kernel_rfl)) (by decide) (fun K hK => ?_)
                                  refine goes_ Try.func26 (by kernel_rfl) rfl #[.agg #[.int .i64 a0_0, .int .i64 a0_1, .int .i64 a0_2, .int .i64 a0_3, .int .i64 a0_4], .int .i64 a1, .int .i64 ((rd_T86 t130 x62_2).f0)] (by rfl) rfl rfl (by (try simp only [List.map_toArray, List.map_cons, List.map_nil]); first | done | rfl | (simp only [List.length_drop, List.length_take]; rfl)) ?_
                                  with_reducible refine (geom_Parity.calls a0_0 a0_1 a0_2 a0_3 a0_4 a1 ((rd_T86 t130 x62_2).f0) t141 _ A55.out).mono ?_
                                  rintro e w62 ⟨rfl, hb⟩
                                  refine ⟨_, rfl, ?_⟩
                                  have n0_ := Aside0.mk (Kd.R_below (by (with_reducible repeat (first | apply Kd.R_alloc | apply Kd.R_drewN | apply Kd.R_drew)); exact HO_10.out) hb)
                                  have n1_ := Aside0.mk (Kd.R_below (by (with_reducible repeat (first | apply Kd.R_alloc | apply Kd.R_drewN | apply Kd.R_drew)); exact HO_60.out) hb)
                                  have n2_ := Aside0.mk (blk_below (g := gb125) (o := .cells #[.int .i64 a0_0, .int .i64 a0_1, .int .i64 a0_2, .int .i64 a0_3, .int .i64 a0_4] 30 (0, 0)) (by (with_reducible repeat (first | refine blk_drewN ?_ _ | refine blk_drew ?_ | refine blk_alloc ?_ _)); exact BK125.out) hb)
                                  have n3_ := Aside0.mk (blk_below (g := gb134) (o := .cells #[.int .i64 ((rd_T86 t130 x62_2).f0), .int .i64 ((rd_T86 t130 x62_2).f1), .int .i64 ((rd_T86 t130 x62_2).f2)] 86 (0, 0)) (by (with_reducible repeat (first | refine blk_drewN ?_ _ | refine blk_drew ?_ | refine blk_alloc ?_ _)); exact BK134.out) hb)
                                  have n4_ := Aside0.mk (blk_below (g := gb142) (o := .cells #[.int .i64 0, .int .i64 0, .int .i64 0, .int .i64 0, .int .i64 0] 37 (0, 0)) (by (with_reducible repeat (first | refine blk_drewN ?_ _ | refine blk_drew ?_ | refine blk_alloc ?_ _)); exact BK142.out) hb)
                                  have n5_ := Aside0.mk (below_step (by repeat (first | (with_reducible first | exact HB.out | apply below_alloc | apply pw_below_drewN | apply below_drew1 | refine below_set ?_ GE125.out | refine below_set ?_ GE134.out | refine below_set ?_ GE142.out) | exact HB.out)) hb)
                                  clear HO_10
                                  clear HO_60
                                  clear BK125
                                  clear BK134
                                  clear BK142
                                  clear HB
                                  have HO_10 := n0_
                                  have HO_60 := n1_
                                  have BK125 := n2_
                                  have BK134 := n3_
                                  have BK142 := n4_
                                  have HB := n5_
                                  clear n0_ n1_ n2_ n3_ n4_ n5_
                                  (try clear hb)
                                  (try clear hb2)
                                  (try clear hk)
                                  (try clear hi)
                                  refine hK.out _ _ ⟨(blk_cell BK125.out 0).trans rfl, (blk_cell BK125.out 1).trans rfl, (blk_cell BK125.out 2).trans rfl, (blk_cell BK125.out 3).trans rfl, (blk_cell BK125.out 4).trans rfl, (blk_cell BK134.out 0).trans rfl, (blk_cell BK134.out 1).trans rfl, (blk_cell BK134.out 2).trans rfl⟩ (fun hHeld => ?_)
                                  clear hK K
                                  refine norm_ (a' := ?_) ?_ ?_
                                  rotate_left
                                  · show Act.put _ (some 101) _ = _
                                    simp only [Act.put, List.setIfInBounds_toArray, List.set_cons_zero, List.set_cons_succ, i64_w, i32_w]
                                    rfl
                                  refine pure_ (i := 7) (N := some 104) (v := ?_) (a' := ?_) #[true, true, true, true, true, true, true, true, true, false] rfl rfl (any_of HT_.out (by kernel_rfl)) (fun _ _ _ h => h) (Or.inl ⟨by rfl, ?_⟩) ?_ ?_
                                  rotate_left
                                  · intro w'
                                    go_simp
                                    with_reducible rfl
                                  rotate_left
                                  · simp only [Act.put, List.setIfInBounds_toArray, List.set_cons_zero, List.set_cons_succ, i64_w, i32_w]
                                    rfl
                                  exact norm_ (by simp only [putAll, Act.put, List.setIfInBounds_toArray, List.set_cons_zero, List.set_cons_succ]) (hCont (gb142) _ ⟨hHeld, (by (with_reducible repeat (first | apply Kd.R_alloc | apply Kd.R_drewN | apply Kd.R_drew)); exact Kd.R_mono HO_10.out (fun _ hk => hk.2)), (by (with_reducible repeat (first | apply Kd.R_alloc | apply Kd.R_drewN | apply Kd.R_drew)); exact HO_60.out), (by (with_reducible repeat (first | refine blk_drewN ?_ _ | refine blk_drew ?_ | refine blk_alloc ?_ _)); exact BK125.out), (by (with_reducible repeat (first | refine blk_drewN ?_ _ | refine blk_drew ?_ | refine blk_alloc ?_ _)); exact BK134.out), (by (with_reducible repeat (first | refine blk_drewN ?_ _ | refine blk_drew ?_ | refine blk_alloc ?_ _)); exact BK142.out), GW142.out, GE142.out, NB125_142.out, NB142_125.out, NB134_142.out, NB142_134.out, (by repeat (first | (with_reducible first | exact HB.out | apply below_alloc | apply pw_below_drewN | apply below_drew1 | refine below_set ?_ GE125.out | refine below_set ?_ GE134.out | refine below_set ?_ GE142.out) | exact HB.out))⟩)
                              rintro gb142 w63 ⟨hS_, h0_, h1_, h2_, h3_, h4_, h5_, h6_, h7_, h8_, h9_, h10_, h11_⟩
                              have n0_ : Aside0 (Kd.R k37 37 w63 w.heap.size (fun k_ => k_ ≠ gb142) u10 x10_3) := ⟨h0_⟩
                              have n1_ : Aside0 (Kd.R k86 86 w63 w.heap.size (fun k_ => k_ ≠ gb134) (.slice (some ad133) t130.length co40) t130) := ⟨h1_⟩
                              have n2_ : Aside0 (w63.heap[gb125]? = some (.cells #[.int .i64 a0_0, .int .i64 a0_1, .int .i64 a0_2, .int .i64 a0_3, .int .i64 a0_4] 30 (0, 0))) := ⟨h2_⟩
                              have n3_ : Aside0 (w63.heap[gb134]? = some (.cells #[.int .i64 ((rd_T86 t130 x62_2).f0), .int .i64 ((rd_T86 t130 x62_2).f1), .int .i64 ((rd_T86 t130 x62_2).f2)] 86 (0, 0))) := ⟨h3_⟩
                              have n4_ : Aside0 (w63.heap[gb142]? = some (.cells #[.int .i64 0, .int .i64 0, .int .i64 0, .int .i64 0, .int .i64 0] 37 (0, 0))) := ⟨h4_⟩
                              have n5_ : Aside0 (w.heap.size ≤ gb142) := ⟨h5_⟩
                              have n6_ : Aside0 (w.heap.size ≤ gb142) := ⟨h6_⟩
                              have n7_ : Aside0 (gb125 ≠ gb142) := ⟨h7_⟩
                              have n8_ : Aside0 (gb142 ≠ gb125) := ⟨h8_⟩
                              have n9_ : Aside0 (gb134 ≠ gb142) := ⟨h9_⟩
                              have n10_ : Aside0 (gb142 ≠ gb134) := ⟨h10_⟩
                              have n11_ : Aside0 (Below w.heap.size w w63) := ⟨h11_⟩
                              clear HO_10
                              clear HO_60
                              clear BK125
                              clear BK134
                              clear HB
                              clear h0_ h1_ h2_ h3_ h4_ h5_ h6_ h7_ h8_ h9_ h10_ h11_
                              have HO_10 := n0_
                              have HO_60 := n1_
                              have BK125 := n2_
                              have BK134 := n3_
                              have BK142 := n4_
                              have GW142 := n5_
                              have GE142 := n6_
                              have NB125_142 := n7_
                              have NB142_125 := n8_
                              have NB134_142 := n9_
                              have NB142_134 := n10_
                              have HB := n11_
                              clear n0_ n1_ n2_ n3_ n4_ n5_ n6_ n7_ n8_ n9_ n10_ n11_
                              have hHeld : w63.cell? ⟨gb125, 0, none⟩ = some (.int .i64 a0_0) ∧ w63.cell? ⟨gb125, 1, none⟩ = some (.int .i64 a0_1) ∧ w63.cell? ⟨gb125, 2, none⟩ = some (.int .i64 a0_2) ∧ w63.cell? ⟨gb125, 3, none⟩ = some (.int .i64 a0_3) ∧ w63.cell? ⟨gb125, 4, none⟩ = some (.int .i64 a0_4) ∧ w63.cell? ⟨gb134, 0, none⟩ = some (.int .i64 ((rd_T86 t130 x62_2).f0)) ∧ w63.cell? ⟨gb134, 1, none⟩ = some (.int .i64 ((rd_T86 t130 x62_2).f1)) ∧ w63.cell? ⟨gb134, 2, none⟩ = some (.int .i64 ((rd_T86 t130 x62_2).f2)) := hS_
                              refine norm_ (a' := ?_) ?_ ?_
                              rotate_left
                              · simp only [putAll, Act.put, List.setIfInBounds_toArray, List.set_cons_zero, List.set_cons_succ]
                                rfl
                              refine one_ (i := 9) (N := none) #[true, true, true, true, true, true, true, true, true, true] rfl rfl (one_of HT_.out (by kernel_rfl)) (by decide) (fun K hK => ?_)
                              have hs64 : w63.cell? ⟨gb142, 0, none⟩ = some (.int .i64 0) := (blk_cell BK142.out 0).trans rfl
                              have hfs64 := blk_frozen BK142.out 0
                              have hns64_0 := NB125_142.out
                              have hns64_1 := NB134_142.out
                              have hms64_0 := NB142_125.out
                              have hms64_1 := NB142_134.out
                              have hs65 : w63.cell? ⟨gb142, 1, none⟩ = some (.int .i64 0) := (blk_cell BK142.out 1).trans rfl
                              have hfs65 := blk_frozen BK142.out 1
                              have hns65_0 := NB125_142.out
                              have hns65_1 := NB134_142.out
                              have hms65_0 := NB142_125.out
                              have hms65_1 := NB142_134.out
                              have hs66 : w63.cell? ⟨gb142, 2, none⟩ = some (.int .i64 0) := (blk_cell BK142.out 2).trans rfl
                              have hfs66 := blk_frozen BK142.out 2
                              have hns66_0 := NB125_142.out
                              have hns66_1 := NB134_142.out
                              have hms66_0 := NB142_125.out
                              have hms66_1 := NB142_134.out
                              have hs67 : w63.cell? ⟨gb142, 3, none⟩ = some (.int .i64 0) := (blk_cell BK142.out 3).trans rfl
                              have hfs67 := blk_frozen BK142.out 3
                              have hns67_0 := NB125_142.out
                              have hns67_1 := NB134_142.out
                              have hms67_0 := NB142_125.out
                              have hms67_1 := NB142_134.out
                              have hs68 : w63.cell? ⟨gb142, 4, none⟩ = some (.int .i64 0) := (blk_cell BK142.out 4).trans rfl
                              have hfs68 := blk_frozen BK142.out 4
                              have hns68_0 := NB125_142.out
                              have hns68_1 := NB134_142.out
                              have hms68_0 := NB142_125.out
                              have hms68_1 := NB142_134.out
                              refine skip_ (w1 := ?_) (by rfl) rfl ?_ ?_
                              rotate_left
                              · go_simp
                                rfl
                              refine hK.out _ _ ⟨((cell_far (p := ⟨gb142, _, none⟩) NB125_142.out _).trans (((cell_far (p := ⟨gb142, _, none⟩) NB125_142.out _).trans (((cell_far (p := ⟨gb142, _, none⟩) NB125_142.out _).trans (((cell_far (p := ⟨gb142, _, none⟩) NB125_142.out _).trans (((cell_far (p := ⟨gb142, _, none⟩) NB125_142.out _).trans (hHeld.1)))))))))), ((cell_far (p := ⟨gb142, _, none⟩) NB125_142.out _).trans (((cell_far (p := ⟨gb142, _, none⟩) NB125_142.out _).trans (((cell_far (p := ⟨gb142, _, none⟩) NB125_142.out _).trans (((cell_far (p := ⟨gb142, _, none⟩) NB125_142.out _).trans (((cell_far (p := ⟨gb142, _, none⟩) NB125_142.out _).trans (hHeld.2.1)))))))))), ((cell_far (p := ⟨gb142, _, none⟩) NB125_142.out _).trans (((cell_far (p := ⟨gb142, _, none⟩) NB125_142.out _).trans (((cell_far (p := ⟨gb142, _, none⟩) NB125_142.out _).trans (((cell_far (p := ⟨gb142, _, none⟩) NB125_142.out _).trans (((cell_far (p := ⟨gb142, _, none⟩) NB125_142.out _).trans (hHeld.2.2.1)))))))))), ((cell_far (p := ⟨gb142, _, none⟩) NB125_142.out _).trans (((cell_far (p := ⟨gb142, _, none⟩) NB125_142.out _).trans (((cell_far (p := ⟨gb142, _, none⟩) NB125_142.out _).trans (((cell_far (p := ⟨gb142, _, none⟩) NB125_142.out _).trans (((cell_far (p := ⟨gb142, _, none⟩) NB125_142.out _).trans (hHeld.2.2.2.1)))))))))), ((cell_far (p := ⟨gb142, _, none⟩) NB125_142.out _).trans (((cell_far (p := ⟨gb142, _, none⟩) NB125_142.out _).trans (((cell_far (p := ⟨gb142, _, none⟩) NB125_142.out _).trans (((cell_far (p := ⟨gb142, _, none⟩) NB125_142.out _).trans (((cell_far (p := ⟨gb142, _, none⟩) NB125_142.out _).trans (hHeld.2.2.2.2.1)))))))))), ((cell_far (p := ⟨gb142, _, none⟩) NB134_142.out _).trans (((cell_far (p := ⟨gb142, _, none⟩) NB134_142.out _).trans (((cell_far (p := ⟨gb142, _, none⟩) NB134_142.out _).trans (((cell_far (p := ⟨gb142, _, none⟩) NB134_142.out _).trans (((cell_far (p := ⟨gb142, _, none⟩) NB134_142.out _).trans (hHeld.2.2.2.2.2.1)))))))))), ((cell_far (p := ⟨gb142, _, none⟩) NB134_142.out _).trans (((cell_far (p := ⟨gb142, _, none⟩) NB134_142.out _).trans (((cell_far (p := ⟨gb142, _, none⟩) NB134_142.out _).trans (((cell_far (p := ⟨gb142, _, none⟩) NB134_142.out _).trans (((cell_far (p := ⟨gb142, _, none⟩) NB134_142.out _).trans (hHeld.2.2.2.2.2.2.1)))))))))), ((cell_far (p := ⟨gb142, _, none⟩) NB134_142.out _).trans (((cell_far (p := ⟨gb142, _, none⟩) NB134_142.out _).trans (((cell_far (p := ⟨gb142, _, none⟩) NB134_142.out _).trans (((cell_far (p := ⟨gb142, _, none⟩) NB134_142.out _).trans (((cell_far (p := ⟨gb142, _, none⟩) NB134_142.out _).trans (hHeld.2.2.2.2.2.2.2))))))))))⟩ (fun hHeld => ?_)
                              clear hK K
                              refine done_ (done_of HT_.out (by kernel_rfl)) ?_
                              have hnb69 := NB134_142.out
                              have hnc69 := NB142_134.out
                              have hcz70_0 : w63.cell? ⟨gb134, 0, none⟩ = some (.int .i64 ((rd_T86 t130 x62_2).f0)) := (blk_cell BK134.out 0).trans rfl
                              have hcz70_1 : w63.cell? ⟨gb134, 1, none⟩ = some (.int .i64 ((rd_T86 t130 x62_2).f1)) := (blk_cell BK134.out 1).trans rfl
                              have hcz70_2 : w63.cell? ⟨gb134, 2, none⟩ = some (.int .i64 ((rd_T86 t130 x62_2).f2)) := (blk_cell BK134.out 2).trans rfl
                              have hfz70_0 := blk_frozen BK134.out 0
                              have hfz70_1 := blk_frozen BK134.out 1
                              have hfz70_2 := blk_frozen BK134.out 2
                              have hnb71 := NB142_125.out
                              have hnc71 := NB125_142.out
                              have hcz72_0 : w63.cell? ⟨gb142, 0, none⟩ = some (.int .i64 0) := (blk_cell BK142.out 0).trans rfl
                              have hcz72_1 : w63.cell? ⟨gb142, 1, none⟩ = some (.int .i64 0) := (blk_cell BK142.out 1).trans rfl
                              have hcz72_2 : w63.cell? ⟨gb142, 2, none⟩ = some (.int .i64 0) := (blk_cell BK142.out 2).trans rfl
                              have hcz72_3 : w63.cell? ⟨gb142, 3, none⟩ = some (.int .i64 0) := (blk_cell BK142.out 3).trans rfl
                              have hcz72_4 : w63.cell? ⟨gb142, 4, none⟩ = some (.int .i64 0) := (blk_cell BK142.out 4).trans rfl
                              have hfz72_0 := blk_frozen BK142.out 0
                              have hfz72_1 := blk_frozen BK142.out 1
                              have hfz72_2 := blk_frozen BK142.out 2
                              have hfz72_3 := blk_frozen BK142.out 3
                              have hfz72_4 := blk_frozen BK142.out 4
                              have hcdz72_0 : ∀ v0_ v1_ v2_ v3_ v4_ : Value, (((((w63.setCell ⟨gb142, 0, none⟩ v0_).setCell ⟨gb142, 1, none⟩ v1_).setCell ⟨gb142, 2, none⟩ v2_).setCell ⟨gb142, 3, none⟩ v3_).setCell ⟨gb142, 4, none⟩ v4_).cell? ⟨gb142, 0, none⟩ = some v0_ := fun v0_ v1_ v2_ v3_ v4_ => (cell_set_past (cell_set_past (cell_set_past (cell_set_past (cell_set_twice hcz72_0) (by simp)) (by simp)) (by simp)) (by simp))
                              have hcdz72_1 : ∀ v0_ v1_ v2_ v3_ v4_ : Value, (((((w63.setCell ⟨gb142, 0, none⟩ v0_).setCell ⟨gb142, 1, none⟩ v1_).setCell ⟨gb142, 2, none⟩ v2_).setCell ⟨gb142, 3, none⟩ v3_).setCell ⟨gb142, 4, none⟩ v4_).cell? ⟨gb142, 1, none⟩ = some v1_ := fun v0_ v1_ v2_ v3_ v4_ => (cell_set_past (cell_set_past (cell_set_past (cell_set_twice (cell_set_past hcz72_1 (by simp))) (by simp)) (by simp)) (by simp))
                              have hcdz72_2 : ∀ v0_ v1_ v2_ v3_ v4_ : Value, (((((w63.setCell ⟨gb142, 0, none⟩ v0_).setCell ⟨gb142, 1, none⟩ v1_).setCell ⟨gb142, 2, none⟩ v2_).setCell ⟨gb142, 3, none⟩ v3_).setCell ⟨gb142, 4, none⟩ v4_).cell? ⟨gb142, 2, none⟩ = some v2_ := fun v0_ v1_ v2_ v3_ v4_ => (cell_set_past (cell_set_past (cell_set_twice (cell_set_past (cell_set_past hcz72_2 (by simp)) (by simp))) (by simp)) (by simp))
                              have hcdz72_3 : ∀ v0_ v1_ v2_ v3_ v4_ : Value, (((((w63.setCell ⟨gb142, 0, none⟩ v0_).setCell ⟨gb142, 1, none⟩ v1_).setCell ⟨gb142, 2, none⟩ v2_).setCell ⟨gb142, 3, none⟩ v3_).setCell ⟨gb142, 4, none⟩ v4_).cell? ⟨gb142, 3, none⟩ = some v3_ := fun v0_ v1_ v2_ v3_ v4_ => (cell_set_past (cell_set_twice (cell_set_past (cell_set_past (cell_set_past hcz72_3 (by simp)) (by simp)) (by simp))) (by simp))
                              have hcdz72_4 : ∀ v0_ v1_ v2_ v3_ v4_ : Value, (((((w63.setCell ⟨gb142, 0, none⟩ v0_).setCell ⟨gb142, 1, none⟩ v1_).setCell ⟨gb142, 2, none⟩ v2_).setCell ⟨gb142, 3, none⟩ v3_).setCell ⟨gb142, 4, none⟩ v4_).cell? ⟨gb142, 4, none⟩ = some v4_ := fun v0_ v1_ v2_ v3_ v4_ => (cell_set_twice (cell_set_past (cell_set_past (cell_set_past (cell_set_past hcz72_4 (by simp)) (by simp)) (by simp)) (by simp)))
                              try go_wp2_with (first | ((with_reducible refine gate_builtin (b := .append) (xs := #[.tmp 116, .tmp 118]) rfl ?_); at_builtin; refine Kd.R_append k37 (w0 := w) w.heap.size rfl (.tmp 116) (.tmp 118) 26 37 (.agg #[(.int .i64 0), (.int .i64 0), (.int .i64 0), (.int .i64 0), (.int .i64 0)]) 40 rfl Try.underlying26 info37 rfl (by decide) (by omega) u10 x10_3 (⟨3, t141, ((rd_T86 t130 x62_2).f0), 0, wrap64 (((rd_T86 t130 x62_2).f1) + ((rd_T86 t130 x62_2).f2))⟩ : S37) [.int .i64 3, .int .i64 t141, .int .i64 ((rd_T86 t130 x62_2).f0), .int .i64 0, .int .i64 (wrap64 (((rd_T86 t130 x62_2).f1) + ((rd_T86 t130 x62_2).f2)))] (fun k_ => k_ ≠ gb142) (fun _ => False) rfl (by first | (go_simp; done) | (go_simp; rfl)) ?aP (fun _ hk => hk.elim) ?aF ?aO ?aB ?aS ?aL ?_; (case aP => exact k37_mkM _ _ _ (⟨3, t141, ((rd_T86 t130 x62_2).f0), 0, wrap64 (((rd_T86 t130 x62_2).f1) + ((rd_T86 t130 x62_2).f2))⟩ : S37)); (case aB => exact (by repeat (first | (with_reducible first | exact HB.out | apply below_alloc | apply pw_below_drewN | apply below_drew1 | refine below_set ?_ GE125.out | refine below_set ?_ GE134.out | refine below_set ?_ GE142.out) | exact HB.out))); (case aF => exact (fun k_ hk => Kd.freshB (g := gb142) (o := .cells #[.int .i64 3, .int .i64 t141, .int .i64 ((rd_T86 t130 x62_2).f0), .int .i64 0, .int .i64 (wrap64 (((rd_T86 t130 x62_2).f1) + ((rd_T86 t130 x62_2).f2)))] 37 (0, 0)) (by (with_reducible repeat (first | refine blk_drewN ?_ _ | refine blk_drew ?_ | refine blk_alloc ?_ _)); refine blk_put (cs := #[.int .i64 3, .int .i64 t141, .int .i64 ((rd_T86 t130 x62_2).f0), .int .i64 0, .int .i64 0]) ?_ 4 _ rfl; (with_reducible repeat (first | refine blk_drewN ?_ _ | refine blk_drew ?_ | refine blk_alloc ?_ _)); refine blk_put (cs := #[.int .i64 2, .int .i64 t141, .int .i64 ((rd_T86 t130 x62_2).f0), .int .i64 0, .int .i64 0]) ?_ 0 _ rfl; (with_reducible repeat (first | refine blk_drewN ?_ _ | refine blk_drew ?_ | refine blk_alloc ?_ _)); refine blk_put (cs := #[.int .i64 2, .int .i64 t141, .int .i64 ((rd_T86 t130 x62_2).f0), .int .i64 0, .int .i64 0]) ?_ 4 _ rfl; (with_reducible repeat (first | refine blk_drewN ?_ _ | refine blk_drew ?_ | refine blk_alloc ?_ _)); refine blk_put (cs := #[.int .i64 2, .int .i64 t141, .int .i64 ((rd_T86 t130 x62_2).f0), .int .i64 0, .int .i64 0]) ?_ 3 _ rfl; (with_reducible repeat (first | refine blk_drewN ?_ _ | refine blk_drew ?_ | refine blk_alloc ?_ _)); refine blk_put (cs := #[.int .i64 2, .int .i64 t141, .int .i64 0, .int .i64 0, .int .i64 0]) ?_ 2 _ rfl; (with_reducible repeat (first | refine blk_drewN ?_ _ | refine blk_drew ?_ | refine blk_alloc ?_ _)); refine blk_put (cs := #[.int .i64 2, .int .i64 0, .int .i64 0, .int .i64 0, .int .i64 0]) ?_ 1 _ rfl; (with_reducible repeat (first | refine blk_drewN ?_ _ | refine blk_drew ?_ | refine blk_alloc ?_ _)); refine blk_put (cs := #[.int .i64 0, .int .i64 0, .int .i64 0, .int .i64 0, .int .i64 0]) ?_ 0 _ rfl; (with_reducible repeat (first | refine blk_drewN ?_ _ | refine blk_drew ?_ | refine blk_alloc ?_ _)); exact BK142.out) k_ hk)); (case aO => exact (by (with_reducible repeat (first | apply Kd.R_alloc | apply Kd.R_drewN | apply Kd.R_drew)); exact Kd.R_mono (Kd.R_far (p := ⟨gb142, 4, none⟩) (Kd.R_far (p := ⟨gb142, 0, none⟩) (Kd.R_far (p := ⟨gb142, 4, none⟩) (Kd.R_far (p := ⟨gb142, 3, none⟩) (Kd.R_far (p := ⟨gb142, 2, none⟩) (Kd.R_far (p := ⟨gb142, 1, none⟩) (Kd.R_far (p := ⟨gb142, 0, none⟩) (Kd.R_mono HO_10.out (fun k_ hk => (⟨hk, hk⟩ : _ ∧ k_ ≠ gb142))) (fun _ hk => hk.2) (.int .i64 2)) (fun _ hk => hk.2) (.int .i64 t141)) (fun _ hk => hk.2) (.int .i64 ((rd_T86 t130 x62_2).f0))) (fun _ hk => hk.2) (.int .i64 0)) (fun _ hk => hk.2) (.int .i64 0)) (fun _ hk => hk.2) (.int .i64 3)) (fun _ hk => hk.2) (.int .i64 (wrap64 (((rd_T86 t130 x62_2).f1) + ((rd_T86 t130 x62_2).f2))))) (fun _ hk => hk.1))); (case aS => exact (below_size (by repeat (first | (with_reducible first | exact HB.out | apply below_alloc | apply pw_below_drewN | apply below_drew1 | refine below_set ?_ GE125.out | refine below_set ?_ GE134.out | refine below_set ?_ GE142.out) | exact HB.out)))); (case aL => have := LMc57.out; omega); intro v144 w73 ho hb hg hat; rw [← Ny143.out] at ho; have n0_ := Aside0.mk (Kd.R_over' (by (with_reducible repeat (first | apply Kd.R_alloc | apply Kd.R_drewN | apply Kd.R_drew)); exact (Kd.R_mono (Kd.R_far (p := ⟨gb142, 4, none⟩) (Kd.R_far (p := ⟨gb142, 0, none⟩) (Kd.R_far (p := ⟨gb142, 4, none⟩) (Kd.R_far (p := ⟨gb142, 3, none⟩) (Kd.R_far (p := ⟨gb142, 2, none⟩) (Kd.R_far (p := ⟨gb142, 1, none⟩) (Kd.R_far (p := ⟨gb142, 0, none⟩) (Kd.R_types HO_60.out BK142.out (by decide)) (fun _ hk => hk.2) (.int .i64 2)) (fun _ hk => hk.2) (.int .i64 t141)) (fun _ hk => hk.2) (.int .i64 ((rd_T86 t130 x62_2).f0))) (fun _ hk => hk.2) (.int .i64 0)) (fun _ hk => hk.2) (.int .i64 0)) (fun _ hk => hk.2) (.int .i64 3)) (fun _ hk => hk.2) (.int .i64 (wrap64 (((rd_T86 t130 x62_2).f1) + ((rd_T86 t130 x62_2).f2))))) (fun _ h_ => h_.1))) (Kd.R_typed (by (with_reducible repeat (first | apply Kd.R_alloc | apply Kd.R_drewN | apply Kd.R_drew)); exact (Kd.R_mono (Kd.R_far (p := ⟨gb142, 4, none⟩) (Kd.R_far (p := ⟨gb142, 0, none⟩) (Kd.R_far (p := ⟨gb142, 4, none⟩) (Kd.R_far (p := ⟨gb142, 3, none⟩) (Kd.R_far (p := ⟨gb142, 2, none⟩) (Kd.R_far (p := ⟨gb142, 1, none⟩) (Kd.R_far (p := ⟨gb142, 0, none⟩) (Kd.R_mono HO_10.out (fun k_ hk => (⟨hk, hk⟩ : _ ∧ k_ ≠ gb142))) (fun _ hk => hk.2) (.int .i64 2)) (fun _ hk => hk.2) (.int .i64 t141)) (fun _ hk => hk.2) (.int .i64 ((rd_T86 t130 x62_2).f0))) (fun _ hk => hk.2) (.int .i64 0)) (fun _ hk => hk.2) (.int .i64 0)) (fun _ hk => hk.2) (.int .i64 3)) (fun _ hk => hk.2) (.int .i64 (wrap64 (((rd_T86 t130 x62_2).f1) + ((rd_T86 t130 x62_2).f2))))) (fun _ h_ => h_.1)))) (by decide) hg); have n1_ := Aside0.mk (blk_grown (g := gb125) (o := .cells #[.int .i64 a0_0, .int .i64 a0_1, .int .i64 a0_2, .int .i64 a0_3, .int .i64 a0_4] 30 (0, 0)) (by (with_reducible repeat (first | refine blk_drewN ?_ _ | refine blk_drew ?_ | refine blk_alloc ?_ _ | refine blk_far ?_ NB125_142.out _)); exact BK125.out) hg (Kd.R_ne HO_10.out BK125.out (by decide))); have n2_ := Aside0.mk (blk_grown (g := gb134) (o := .cells #[.int .i64 ((rd_T86 t130 x62_2).f0), .int .i64 ((rd_T86 t130 x62_2).f1), .int .i64 ((rd_T86 t130 x62_2).f2)] 86 (0, 0)) (by (with_reducible repeat (first | refine blk_drewN ?_ _ | refine blk_drew ?_ | refine blk_alloc ?_ _ | refine blk_far ?_ NB134_142.out _)); exact BK134.out) hg (Kd.R_ne HO_10.out BK134.out (by decide))); have n3_ := Aside0.mk (blk_grown (g := gb142) (o := .cells #[.int .i64 3, .int .i64 t141, .int .i64 ((rd_T86 t130 x62_2).f0), .int .i64 0, .int .i64 (wrap64 (((rd_T86 t130 x62_2).f1) + ((rd_T86 t130 x62_2).f2)))] 37 (0, 0)) (by (with_reducible repeat (first | refine blk_drewN ?_ _ | refine blk_drew ?_ | refine blk_alloc ?_ _)); refine blk_put (cs := #[.int .i64 3, .int .i64 t141, .int .i64 ((rd_T86 t130 x62_2).f0), .int .i64 0, .int .i64 0]) ?_ 4 _ rfl; (with_reducible repeat (first | refine blk_drewN ?_ _ | refine blk_drew ?_ | refine blk_alloc ?_ _)); refine blk_put (cs := #[.int .i64 2, .int .i64 t141, .int .i64 ((rd_T86 t130 x62_2).f0), .int .i64 0, .int .i64 0]) ?_ 0 _ rfl; (with_reducible repeat (first | refine blk_drewN ?_ _ | refine blk_drew ?_ | refine blk_alloc ?_ _)); refine blk_put (cs := #[.int .i64 2, .int .i64 t141, .int .i64 ((rd_T86 t130 x62_2).f0), .int .i64 0, .int .i64 0]) ?_ 4 _ rfl; (with_reducible repeat (first | refine blk_drewN ?_ _ | refine blk_drew ?_ | refine blk_alloc ?_ _)); refine blk_put (cs := #[.int .i64 2, .int .i64 t141, .int .i64 ((rd_T86 t130 x62_2).f0), .int .i64 0, .int .i64 0]) ?_ 3 _ rfl; (with_reducible repeat (first | refine blk_drewN ?_ _ | refine blk_drew ?_ | refine blk_alloc ?_ _)); refine blk_put (cs := #[.int .i64 2, .int .i64 t141, .int .i64 0, .int .i64 0, .int .i64 0]) ?_ 2 _ rfl; (with_reducible repeat (first | refine blk_drewN ?_ _ | refine blk_drew ?_ | refine blk_alloc ?_ _)); refine blk_put (cs := #[.int .i64 2, .int .i64 0, .int .i64 0, .int .i64 0, .int .i64 0]) ?_ 1 _ rfl; (with_reducible repeat (first | refine blk_drewN ?_ _ | refine blk_drew ?_ | refine blk_alloc ?_ _)); refine blk_put (cs := #[.int .i64 0, .int .i64 0, .int .i64 0, .int .i64 0, .int .i64 0]) ?_ 0 _ rfl; (with_reducible repeat (first | refine blk_drewN ?_ _ | refine blk_drew ?_ | refine blk_alloc ?_ _)); exact BK142.out) hg (Kd.R_away HO_10.out (fun _ hk => hk))); have n4_ := Aside0.mk (hb); have n5_ := Aside0.mk (ho); clear HO_60; clear BK125; clear BK134; clear BK142; clear HB; clear HO_10; have HO_60 := n0_; have BK125 := n1_; have BK134 := n2_; have BK142 := n3_; have HB := n4_; have HO145 := n5_; clear n0_ n1_ n2_ n3_ n4_ n5_; clear ho hb hg hat))
                              go_roundg k3
                              case measure => have := HJ6.out; have := HK2.out; have := HK3.out; omega
                              case rel => exact ⟨(y143), (wrap64 (x62_2 + 1)), (by first | rfl | (simp; done) | (simp [*]; done)), H', ⟨by have := HJ6.out; have := HK2.out; have := HK3.out; omega⟩, ⟨by (with_reducible repeat (first | apply Kd.R_alloc | apply Kd.R_drewN | apply Kd.R_drew)); exact Kd.R_mono HO145.out (fun _ hk => trivial)⟩, ⟨by (with_reducible repeat (first | apply Kd.R_alloc | apply Kd.R_drewN | apply Kd.R_drew)); exact Kd.R_mono HO_60.out (fun _ hk => trivial)⟩, ⟨by (with_reducible repeat (first | refine blk_drewN ?_ _ | refine blk_drew ?_ | refine blk_alloc ?_ _)); exact BK125.out⟩, ⟨by repeat (first | (with_reducible first | exact HB.out | apply below_alloc | apply pw_below_drewN | apply below_drew1 | refine below_set ?_ GE125.out | refine below_set ?_ GE134.out | refine below_set ?_ GE142.out) | exact HB.out)⟩⟩
                            · rw [if_neg c57] at H
                              exact absurd H (by simp)
                          · rw [if_neg c56] at H
                            have c56b0 : decide ((wrap64 (((rd_T86 t130 x62_2).f1) + ((rd_T86 t130 x62_2).f2))) < (wrap64 (a0_0 - 1))) = false := decide_eq_false c56
                            clear c56
                            by_cases c74 : x10_3.length < 3518437208883
                            · rw [if_pos c74] at H
                              have LMc74 := Aside0.mk c74
                              clear c74
                              obtain ⟨y146, hy146⟩ : ∃ y_ : List (S37), y_ = (x10_3 ++ [(⟨2, t141, ((rd_T86 t130 x62_2).f0), 0, 0⟩ : S37)]) := ⟨_, rfl⟩
                              replace H : (plan_Write.l0 k3 a1 y146 (wrap64 (a0_0 - 1)) t130 (t130.length : Int) (wrap64 (x62_2 + 1)) a0_0 a0_1 a0_2 a0_3 a0_4) = some (r1, r2) := by first | (rw [hy146]; with_reducible exact H) | (have H2_ := (Option.bind_some _ _).symm.trans H; rw [hy146]; with_reducible exact H2_) | (have H2_ := (Option.bind_some _ _).symm.trans H; with_reducible exact H2_) | with_reducible exact H | (rw [hy146]; exact H) | exact H
                              have Ny146 := Aside0.mk hy146
                              clear hy146
                              have H' := Aside0.mk H
                              clear H
                              have hnb75 := NB134_125.out
                              have hnc75 := NB125_134.out
                              have hcz76_0 : wr.cell? ⟨gb134, 0, none⟩ = some (.int .i64 ((rd_T86 t130 x62_2).f0)) := (blk_cell BK134.out 0).trans rfl
                              have hcz76_1 : wr.cell? ⟨gb134, 1, none⟩ = some (.int .i64 ((rd_T86 t130 x62_2).f1)) := (blk_cell BK134.out 1).trans rfl
                              have hcz76_2 : wr.cell? ⟨gb134, 2, none⟩ = some (.int .i64 ((rd_T86 t130 x62_2).f2)) := (blk_cell BK134.out 2).trans rfl
                              have hfz76_0 := blk_frozen BK134.out 0
                              have hfz76_1 := blk_frozen BK134.out 1
                              have hfz76_2 := blk_frozen BK134.out 2
                              try go_wp2
                              have n0_ := Aside0.mk (Kd.R_drew HO_10.out)
                              have n1_ := Aside0.mk (Kd.R_drew HO_60.out)
                              have n2_ := Aside0.mk (blk_drew BK125.out)
                              have n3_ := Aside0.mk (blk_drew BK134.out)
                              have n4_ := Aside0.mk (below_drew1 HB.out)
                              clear HO_10
                              clear HO_60
                              clear BK125
                              clear BK134
                              clear HB
                              have HO_10 := n0_
                              have HO_60 := n1_
                              have BK125 := n2_
                              have BK134 := n3_
                              have HB := n4_
                              clear n0_ n1_ n2_ n3_ n4_
                              refine start_ (n := 10) (S := fun w' => w'.cell? ⟨gb125, 0, none⟩ = some (.int .i64 a0_0) ∧ w'.cell? ⟨gb125, 1, none⟩ = some (.int .i64 a0_1) ∧ w'.cell? ⟨gb125, 2, none⟩ = some (.int .i64 a0_2) ∧ w'.cell? ⟨gb125, 3, none⟩ = some (.int .i64 a0_3) ∧ w'.cell? ⟨gb125, 4, none⟩ = some (.int .i64 a0_4) ∧ w'.cell? ⟨gb134, 0, none⟩ = some (.int .i64 ((rd_T86 t130 x62_2).f0)) ∧ w'.cell? ⟨gb134, 1, none⟩ = some (.int .i64 ((rd_T86 t130 x62_2).f1)) ∧ w'.cell? ⟨gb134, 2, none⟩ = some (.int .i64 ((rd_T86 t130 x62_2).f2))) (ds := []) #[false, false, false, false, false, false, false, false, false, false] (by kernel_rfl) rfl rfl ⟨(blk_cell BK125.out 0).trans rfl, (blk_cell BK125.out 1).trans rfl, (blk_cell BK125.out 2).trans rfl, (blk_cell BK125.out 3).trans rfl, (blk_cell BK125.out 4).trans rfl, (blk_cell BK134.out 0).trans rfl, (blk_cell BK134.out 1).trans rfl, (blk_cell BK134.out 2).trans rfl⟩ (fun hHeld => ?_); refine with_tabW plan_Write.tab16 plan_Write.bits16 (fun HT_ HW_ => ?_)
                              generalize wr.drew = w77 at HO_10 HO_60 BK125 BK134 HB hHeld ⊢
                              refine pure_ (i := 1) (N := some 98) (v := ?_) (a' := ?_) #[false, true, false, false, false, false, false, false, false, false] rfl rfl (any_of HT_.out (by kernel_rfl)) (fun _ _ _ h => h) (Or.inl ⟨by rfl, ?_⟩) ?_ ?_
                              rotate_left
                              · intro w'
                                go_simp
                                with_reducible rfl
                              rotate_left
                              · simp only [Act.put, List.setIfInBounds_toArray, List.set_cons_zero, List.set_cons_succ, i64_w, i32_w]
                                rfl
                              refine pure_ (i := 2) (N := some 99) (v := ?_) (a' := ?_) #[false, true, true, false, false, false, false, false, false, false] rfl rfl (any_of HT_.out (by kernel_rfl)) (fun _ _ _ h => h) (Or.inl ⟨by rfl, ?_⟩) ?_ ?_
                              rotate_left
                              · intro w'
                                go_simp
                                with_reducible rfl
                              rotate_left
                              · simp only [Act.put, List.setIfInBounds_toArray, List.set_cons_zero, List.set_cons_succ, i64_w, i32_w]
                                rfl
                              refine pure_ (i := 5) (N := some 102) (v := ?_) (a' := ?_) #[false, true, true, false, false, true, false, false, false, false] rfl rfl (any_of HT_.out (by kernel_rfl)) (fun _ _ _ h => h) (Or.inl ⟨by rfl, ?_⟩) ?_ ?_
                              rotate_left
                              · intro w'
                                go_simp
                                with_reducible rfl
                              rotate_left
                              · simp only [Act.put, List.setIfInBounds_toArray, List.set_cons_zero, List.set_cons_succ, i64_w, i32_w]
                                rfl
                              refine take_ (i := 0) (N := some 97) (v := ?_) (a' := ?_) #[true, true, true, false, false, true, false, false, false, false] rfl rfl (take_ofW HT_.out HW_.out (by kernel_rfl)) (fun _ _ _ h => h) (Or.inl ⟨by rfl, ?_⟩) hHeld ?_ ?_
                              rotate_left
                              · rintro w' ⟨s0, s1, s2, s3, s4, s5, s6, s7⟩
                                go_simp
                                with_reducible rfl
                              rotate_left
                              · simp only [Act.put, List.setIfInBounds_toArray, List.set_cons_zero, List.set_cons_succ, i64_w, i32_w]
                                rfl
                              refine take_ (i := 3) (N := some 100) (v := ?_) (a' := ?_) #[true, true, true, true, false, true, false, false, false, false] rfl rfl (take_ofW HT_.out HW_.out (by kernel_rfl)) (fun _ _ _ h => h) (Or.inl ⟨by rfl, ?_⟩) hHeld ?_ ?_
                              rotate_left
                              · rintro w' ⟨s0, s1, s2, s3, s4, s5, s6, s7⟩
                                go_simp
                                with_reducible rfl
                              rotate_left
                              · simp only [Act.put, List.setIfInBounds_toArray, List.set_cons_zero, List.set_cons_succ, i64_w, i32_w]
                                rfl
                              refine take_ (i := 6) (N := some 103) (v := ?_) (a' := ?_) #[true, true, true, true, false, true, true, false, false, false] rfl rfl (take_ofW HT_.out HW_.out (by kernel_rfl)) (fun _ _ _ h => h) (Or.inl ⟨by rfl, ?_⟩) hHeld ?_ ?_
                              rotate_left
                              · rintro w' ⟨s0, s1, s2, s3, s4, s5, s6, s7⟩
                                go_simp
                                with_reducible rfl
                              rotate_left
                              · simp only [Act.put, List.setIfInBounds_toArray, List.set_cons_zero, List.set_cons_succ, i64_w, i32_w]
                                rfl
                              refine join_ (σ := Nat) 1 #[true, true, true, true, true, true, true, true, true, false] (fun s_ => [(101, .int .i64 t141), (19, .pointer (some ⟨s_, 0, none⟩)), (104, .agg #[.int .i64 2, .int .i64 t141, .int .i64 ((rd_T86 t130 x62_2).f0), .int .i64 0, .int .i64 0])]) (fun s_ w' => (w'.cell? ⟨gb125, 0, none⟩ = some (.int .i64 a0_0) ∧ w'.cell? ⟨gb125, 1, none⟩ = some (.int .i64 a0_1) ∧ w'.cell? ⟨gb125, 2, none⟩ = some (.int .i64 a0_2) ∧ w'.cell? ⟨gb125, 3, none⟩ = some (.int .i64 a0_3) ∧ w'.cell? ⟨gb125, 4, none⟩ = some (.int .i64 a0_4) ∧ w'.cell? ⟨gb134, 0, none⟩ = some (.int .i64 ((rd_T86 t130 x62_2).f0)) ∧ w'.cell? ⟨gb134, 1, none⟩ = some (.int .i64 ((rd_T86 t130 x62_2).f1)) ∧ w'.cell? ⟨gb134, 2, none⟩ = some (.int .i64 ((rd_T86 t130 x62_2).f2))) ∧ (Kd.R k37 37 w' w.heap.size (fun k_ => k_ ≠ s_) u10 x10_3) ∧ (Kd.R k86 86 w' w.heap.size (fun k_ => k_ ≠ gb134) (.slice (some ad133) t130.length co40) t130) ∧ (w'.heap[gb125]? = some (.cells #[.int .i64 a0_0, .int .i64 a0_1, .int .i64 a0_2, .int .i64 a0_3, .int .i64 a0_4] 30 (0, 0))) ∧ (w'.heap[gb134]? = some (.cells #[.int .i64 ((rd_T86 t130 x62_2).f0), .int .i64 ((rd_T86 t130 x62_2).f1), .int .i64 ((rd_T86 t130 x62_2).f2)] 86 (0, 0))) ∧ (w'.heap[s_]? = some (.cells #[.int .i64 0, .int .i64 0, .int .i64 0, .int .i64 0, .int .i64 0] 37 (0, 0))) ∧ (w.heap.size ≤ s_) ∧ (w.heap.size ≤ s_) ∧ (gb125 ≠ s_) ∧ (s_ ≠ gb125) ∧ (gb134 ≠ s_) ∧ (s_ ≠ gb134) ∧ (Below w.heap.size w w')) ?_ ?_
                              rotate_left
                              · intro hCont
                                refine two_ (i := 4) (j := 8) (Ni := some 101) (Nj := some 19) #[true, true, true, true, true, true, true, false, false, false] #[true, true, true, true, false, true, true, false, true, false] rfl rfl rfl rfl (two_of HT_.out (by kernel_rfl)) (by decide) (by decide) (fun K hK => ?_) (fun K hK => ?_)
                                · skip
                                  refine goes_ Try.func26 (by kernel_rfl) rfl #[.agg #[.int .i64 a0_0, .int .i64 a0_1, .int .i64 a0_2, .int .i64 a0_3, .int .i64 a0_4], .int .i64 a1, .int .i64 ((rd_T86 t130 x62_2).f0)] (by rfl) rfl rfl (by (try simp only [List.map_toArray, List.map_cons, List.map_nil]); first | done | rfl | (simp only [List.length_drop, List.length_take]; rfl)) ?_
                                  with_reducible refine (geom_Parity.calls a0_0 a0_1 a0_2 a0_3 a0_4 a1 ((rd_T86 t130 x62_2).f0) t141 _ A55.out).mono ?_
                                  rintro e w78 ⟨rfl, hb⟩
                                  refine ⟨_, rfl, ?_⟩
                                  have n0_ := Aside0.mk (Kd.R_below (by (with_reducible repeat (first | apply Kd.R_alloc | apply Kd.R_drewN | apply Kd.R_drew)); exact HO_10.out) hb)
                                  have n1_ := Aside0.mk (Kd.R_below (by (with_reducible repeat (first | apply Kd.R_alloc | apply Kd.R_drewN | apply Kd.R_drew)); exact HO_60.out) hb)
                                  have n2_ := Aside0.mk (blk_below (g := gb125) (o := .cells #[.int .i64 a0_0, .int .i64 a0_1, .int .i64 a0_2, .int .i64 a0_3, .int .i64 a0_4] 30 (0, 0)) (by (with_reducible repeat (first | refine blk_drewN ?_ _ | refine blk_drew ?_ | refine blk_alloc ?_ _)); exact BK125.out) hb)
                                  have n3_ := Aside0.mk (blk_below (g := gb134) (o := .cells #[.int .i64 ((rd_T86 t130 x62_2).f0), .int .i64 ((rd_T86 t130 x62_2).f1), .int .i64 ((rd_T86 t130 x62_2).f2)] 86 (0, 0)) (by (with_reducible repeat (first | refine blk_drewN ?_ _ | refine blk_drew ?_ | refine blk_alloc ?_ _)); exact BK134.out) hb)
                                  have n4_ := Aside0.mk (below_step (by repeat (first | (with_reducible first | exact HB.out | apply below_alloc | apply pw_below_drewN | apply below_drew1 | refine below_set ?_ GE125.out | refine below_set ?_ GE134.out) | exact HB.out)) hb)
                                  clear HO_10
                                  clear HO_60
                                  clear BK125
                                  clear BK134
                                  clear HB
                                  have HO_10 := n0_
                                  have HO_60 := n1_
                                  have BK125 := n2_
                                  have BK134 := n3_
                                  have HB := n4_
                                  clear n0_ n1_ n2_ n3_ n4_
                                  (try clear hb)
                                  (try clear hb2)
                                  (try clear hk)
                                  (try clear hi)
                                  refine hK.out _ _ ⟨(blk_cell BK125.out 0).trans rfl, (blk_cell BK125.out 1).trans rfl, (blk_cell BK125.out 2).trans rfl, (blk_cell BK125.out 3).trans rfl, (blk_cell BK125.out 4).trans rfl, (blk_cell BK134.out 0).trans rfl, (blk_cell BK134.out 1).trans rfl, (blk_cell BK134.out 2).trans rfl⟩ (fun hHeld => ?_)
                                  clear hK K
                                  refine norm_ (a' := ?_) ?_ ?_
                                  rotate_left
                                  · show Act.put _ (some 101) _ = _
                                    simp only [Act.put, List.setIfInBounds_toArray, List.set_cons_zero, List.set_cons_succ, i64_w, i32_w]
                                    rfl
                                  refine pure_ (i := 7) (N := some 104) (v := ?_) (a' := ?_) #[true, true, true, true, true, true, true, true, false, false] rfl rfl (any_of HT_.out (by kernel_rfl)) (fun _ _ _ h => h) (Or.inl ⟨by rfl, ?_⟩) ?_ ?_
                                  rotate_left
                                  · intro w'
                                    go_simp
                                    with_reducible rfl
                                  rotate_left
                                  · simp only [Act.put, List.setIfInBounds_toArray, List.set_cons_zero, List.set_cons_succ, i64_w, i32_w]
                                    rfl
                                  refine one_ (i := 8) (N := some 19) #[true, true, true, true, true, true, true, true, true, false] rfl rfl (one_of HT_.out (by kernel_rfl)) (by decide) (fun K hK => ?_)
                                  refine box_step ?hg (N := 19) ?hd (cs := #[.int .i64 0, .int .i64 0, .int .i64 0, .int .i64 0, .int .i64 0]) (t := 37) ?hr ?_; (case hd => rfl); (case hg => rfl); (case hr => first | (go_simp; done) | (go_simp; rfl))
                                  intro gb142 hg w79 hbox hb
                                  have n0_ := Aside0.mk (Kd.R_below (Kd.R_elderB (by (with_reducible repeat (first | apply Kd.R_alloc | apply Kd.R_drewN | apply Kd.R_drew)); exact HO_10.out) gb142 (Nat.le_of_eq hg.symm)) hb)
                                  have n1_ := Aside0.mk (Kd.R_below (by (with_reducible repeat (first | apply Kd.R_alloc | apply Kd.R_drewN | apply Kd.R_drew)); exact HO_60.out) hb)
                                  have n2_ := Aside0.mk (blk_below (g := gb125) (o := .cells #[.int .i64 a0_0, .int .i64 a0_1, .int .i64 a0_2, .int .i64 a0_3, .int .i64 a0_4] 30 (0, 0)) (by (with_reducible repeat (first | refine blk_drewN ?_ _ | refine blk_drew ?_ | refine blk_alloc ?_ _)); exact BK125.out) hb)
                                  have n3_ := Aside0.mk (blk_below (g := gb134) (o := .cells #[.int .i64 ((rd_T86 t130 x62_2).f0), .int .i64 ((rd_T86 t130 x62_2).f1), .int .i64 ((rd_T86 t130 x62_2).f2)] 86 (0, 0)) (by (with_reducible repeat (first | refine blk_drewN ?_ _ | refine blk_drew ?_ | refine blk_alloc ?_ _)); exact BK134.out) hb)
                                  have n4_ := Aside0.mk (below_step (by repeat (first | (with_reducible first | exact HB.out | apply below_alloc | apply pw_below_drewN | apply below_drew1 | refine below_set ?_ GE125.out | refine below_set ?_ GE134.out) | exact HB.out)) hb)
                                  have n5_ := Aside0.mk (hbox)
                                  have n6_ := Aside0.mk ((by rw [hg]; exact (below_size (by repeat (first | (with_reducible first | exact HB.out | apply below_alloc | apply pw_below_drewN | apply below_drew1 | refine below_set ?_ GE125.out | refine below_set ?_ GE134.out) | exact HB.out))) : w.heap.size ≤ gb142))
                                  have n7_ := Aside0.mk ((by rw [hg]; exact (below_size (by repeat (first | (with_reducible first | exact HB.out | apply below_alloc | apply pw_below_drewN | apply below_drew1 | refine below_set ?_ GE125.out | refine below_set ?_ GE134.out) | exact HB.out))) : w.heap.size ≤ gb142))
                                  have n8_ := Aside0.mk ((by rw [hg]; exact Nat.ne_of_lt (blk_lt (g := gb125) (o := .cells #[.int .i64 a0_0, .int .i64 a0_1, .int .i64 a0_2, .int .i64 a0_3, .int .i64 a0_4] 30 (0, 0)) (by (with_reducible repeat (first | refine blk_drewN ?_ _ | refine blk_drew ?_ | refine blk_alloc ?_ _)); exact BK125.out)) : gb125 ≠ gb142))
                                  have n9_ := Aside0.mk ((by rw [hg]; exact Nat.ne_of_gt (blk_lt (g := gb125) (o := .cells #[.int .i64 a0_0, .int .i64 a0_1, .int .i64 a0_2, .int .i64 a0_3, .int .i64 a0_4] 30 (0, 0)) (by (with_reducible repeat (first | refine blk_drewN ?_ _ | refine blk_drew ?_ | refine blk_alloc ?_ _)); exact BK125.out)) : gb142 ≠ gb125))
                                  have n10_ := Aside0.mk ((by rw [hg]; exact Nat.ne_of_lt (blk_lt (g := gb134) (o := .cells #[.int .i64 ((rd_T86 t130 x62_2).f0), .int .i64 ((rd_T86 t130 x62_2).f1), .int .i64 ((rd_T86 t130 x62_2).f2)] 86 (0, 0)) (by (with_reducible repeat (first | refine blk_drewN ?_ _ | refine blk_drew ?_ | refine blk_alloc ?_ _)); exact BK134.out)) : gb134 ≠ gb142))
                                  have n11_ := Aside0.mk ((by rw [hg]; exact Nat.ne_of_gt (blk_lt (g := gb134) (o := .cells #[.int .i64 ((rd_T86 t130 x62_2).f0), .int .i64 ((rd_T86 t130 x62_2).f1), .int .i64 ((rd_T86 t130 x62_2).f2)] 86 (0, 0)) (by (with_reducible repeat (first | refine blk_drewN ?_ _ | refine blk_drew ?_ | refine blk_alloc ?_ _)); exact BK134.out)) : gb142 ≠ gb134))
                                  clear HO_10
                                  clear HO_60
                                  clear BK125
                                  clear BK134
                                  clear HB
                                  have HO_10 := n0_
                                  have HO_60 := n1_
                                  have BK125 := n2_
                                  have BK134 := n3_
                                  have HB := n4_
                                  have BK142 := n5_
                                  have GW142 := n6_
                                  have GE142 := n7_
                                  have NB125_142 := n8_
                                  have NB142_125 := n9_
                                  have NB134_142 := n10_
                                  have NB142_134 := n11_
                                  clear n0_ n1_ n2_ n3_ n4_ n5_ n6_ n7_ n8_ n9_ n10_ n11_
                                  clear hb hbox hg
                                  refine hK.out _ _ ⟨(blk_cell BK125.out 0).trans rfl, (blk_cell BK125.out 1).trans rfl, (blk_cell BK125.out 2).trans rfl, (blk_cell BK125.out 3).trans rfl, (blk_cell BK125.out 4).trans rfl, (blk_cell BK134.out 0).trans rfl, (blk_cell BK134.out 1).trans rfl, (blk_cell BK134.out 2).trans rfl⟩ (fun hHeld => ?_)
                                  clear hK K
                                  refine norm_ (a' := ?_) ?_ ?_
                                  rotate_left
                                  · show Act.put _ (some 19) _ = _
                                    simp only [Act.put, List.setIfInBounds_toArray, List.set_cons_zero, List.set_cons_succ, i64_w, i32_w]
                                    rfl
                                  exact norm_ (by simp only [putAll, Act.put, List.setIfInBounds_toArray, List.set_cons_zero, List.set_cons_succ]) (hCont (gb142) _ ⟨hHeld, (by (with_reducible repeat (first | apply Kd.R_alloc | apply Kd.R_drewN | apply Kd.R_drew)); exact Kd.R_mono HO_10.out (fun _ hk => hk.2)), (by (with_reducible repeat (first | apply Kd.R_alloc | apply Kd.R_drewN | apply Kd.R_drew)); exact HO_60.out), (by (with_reducible repeat (first | refine blk_drewN ?_ _ | refine blk_drew ?_ | refine blk_alloc ?_ _)); exact BK125.out), (by (with_reducible repeat (first | refine blk_drewN ?_ _ | refine blk_drew ?_ | refine blk_alloc ?_ _)); exact BK134.out), (by (with_reducible repeat (first | refine blk_drewN ?_ _ | refine blk_drew ?_ | refine blk_alloc ?_ _)); exact BK142.out), GW142.out, GE142.out, NB125_142.out, NB142_125.out, NB134_142.out, NB142_134.out, (by repeat (first | (with_reducible first | exact HB.out | apply below_alloc | apply pw_below_drewN | apply below_drew1 | refine below_set ?_ GE125.out | refine below_set ?_ GE134.out | refine below_set ?_ GE142.out) | exact HB.out))⟩)
                                · skip
                                  refine box_step ?hg (N := 19) ?hd (cs := #[.int .i64 0, .int .i64 0, .int .i64 0, .int .i64 0, .int .i64 0]) (t := 37) ?hr ?_; (case hd => rfl); (case hg => rfl); (case hr => first | (go_simp; done) | (go_simp; rfl))
                                  intro gb142 hg w78 hbox hb
                                  have n0_ := Aside0.mk (Kd.R_below (Kd.R_elderB (by (with_reducible repeat (first | apply Kd.R_alloc | apply Kd.R_drewN | apply Kd.R_drew)); exact HO_10.out) gb142 (Nat.le_of_eq hg.symm)) hb)
                                  have n1_ := Aside0.mk (Kd.R_below (by (with_reducible repeat (first | apply Kd.R_alloc | apply Kd.R_drewN | apply Kd.R_drew)); exact HO_60.out) hb)
                                  have n2_ := Aside0.mk (blk_below (g := gb125) (o := .cells #[.int .i64 a0_0, .int .i64 a0_1, .int .i64 a0_2, .int .i64 a0_3, .int .i64 a0_4] 30 (0, 0)) (by (with_reducible repeat (first | refine blk_drewN ?_ _ | refine blk_drew ?_ | refine blk_alloc ?_ _)); exact BK125.out) hb)
                                  have n3_ := Aside0.mk (blk_below (g := gb134) (o := .cells #[.int .i64 ((rd_T86 t130 x62_2).f0), .int .i64 ((rd_T86 t130 x62_2).f1), .int .i64 ((rd_T86 t130 x62_2).f2)] 86 (0, 0)) (by (with_reducible repeat (first | refine blk_drewN ?_ _ | refine blk_drew ?_ | refine blk_alloc ?_ _)); exact BK134.out) hb)
                                  have n4_ := Aside0.mk (below_step (by repeat (first | (with_reducible first | exact HB.out | apply below_alloc | apply pw_below_drewN | apply below_drew1 | refine below_set ?_ GE125.out | refine below_set ?_ GE134.out) | exact HB.out)) hb)
                                  have n5_ := Aside0.mk (hbox)
                                  have n6_ := Aside0.mk ((by rw [hg]; exact (below_size (by repeat (first | (with_reducible first | exact HB.out | apply below_alloc | apply pw_below_drewN | apply below_drew1 | refine below_set ?_ GE125.out | refine below_set ?_ GE134.out) | exact HB.out))) : w.heap.size ≤ gb142))
                                  have n7_ := Aside0.mk ((by rw [hg]; exact (below_size (by repeat (first | (with_reducible first | exact HB.out | apply below_alloc | apply pw_below_drewN | apply below_drew1 | refine below_set ?_ GE125.out | refine below_set ?_ GE134.out) | exact HB.out))) : w.heap.size ≤ gb142))
                                  have n8_ := Aside0.mk ((by rw [hg]; exact Nat.ne_of_lt (blk_lt (g := gb125) (o := .cells #[.int .i64 a0_0, .int .i64 a0_1, .int .i64 a0_2, .int .i64 a0_3, .int .i64 a0_4] 30 (0, 0)) (by (with_reducible repeat (first | refine blk_drewN ?_ _ | refine blk_drew ?_ | refine blk_alloc ?_ _)); exact BK125.out)) : gb125 ≠ gb142))
                                  have n9_ := Aside0.mk ((by rw [hg]; exact Nat.ne_of_gt (blk_lt (g := gb125) (o := .cells #[.int .i64 a0_0, .int .i64 a0_1, .int .i64 a0_2, .int .i64 a0_3, .int .i64 a0_4] 30 (0, 0)) (by (with_reducible repeat (first | refine blk_drewN ?_ _ | refine blk_drew ?_ | refine blk_alloc ?_ _)); exact BK125.out)) : gb142 ≠ gb125))
                                  have n10_ := Aside0.mk ((by rw [hg]; exact Nat.ne_of_lt (blk_lt (g := gb134) (o := .cells #[.int .i64 ((rd_T86 t130 x62_2).f0), .int .i64 ((rd_T86 t130 x62_2).f1), .int .i64 ((rd_T86 t130 x62_2).f2)] 86 (0, 0)) (by (with_reducible repeat (first | refine blk_drewN ?_ _ | refine blk_drew ?_ | refine blk_alloc ?_ _)); exact BK134.out)) : gb134 ≠ gb142))
                                  have n11_ := Aside0.mk ((by rw [hg]; exact Nat.ne_of_gt (blk_lt (g := gb134) (o := .cells #[.int .i64 ((rd_T86 t130 x62_2).f0), .int .i64 ((rd_T86 t130 x62_2).f1), .int .i64 ((rd_T86 t130 x62_2).f2)] 86 (0, 0)) (by (with_reducible repeat (first | refine blk_drewN ?_ _ | refine blk_drew ?_ | refine blk_alloc ?_ _)); exact BK134.out)) : gb142 ≠ gb134))
                                  clear HO_10
                                  clear HO_60
                                  clear BK125
                                  clear BK134
                                  clear HB
                                  have HO_10 := n0_
                                  have HO_60 := n1_
                                  have BK125 := n2_
                                  have BK134 := n3_
                                  have HB := n4_
                                  have BK142 := n5_
                                  have GW142 := n6_
                                  have GE142 := n7_
                                  have NB125_142 := n8_
                                  have NB142_125 := n9_
                                  have NB134_142 := n10_
                                  have NB142_134 := n11_
                                  clear n0_ n1_ n2_ n3_ n4_ n5_ n6_ n7_ n8_ n9_ n10_ n11_
                                  clear hb hbox hg
                                  refine hK.out _ _ ⟨(blk_cell BK125.out 0).trans rfl, (blk_cell BK125.out 1).trans rfl, (blk_cell BK125.out 2).trans rfl, (blk_cell BK125.out 3).trans rfl, (blk_cell BK125.out 4).trans rfl, (blk_cell BK134.out 0).trans rfl, (blk_cell BK134.out 1).trans rfl, (blk_cell BK134.out 2).trans rfl⟩ (fun hHeld => ?_)
                                  clear hK K
                                  refine norm_ (a' := ?_) ?_ ?_
                                  rotate_left
                                  · show Act.put _ (some 19) _ = _
                                    simp only [Act.put, List.setIfInBounds_toArray, List.set_cons_zero, List.set_cons_succ, i64_w, i32_w]
                                    rfl
                                  refine one_ (i := 4) (N := some 101) #[true, true, true, true, true, true, true, false, true, false] rfl rfl (one_of HT_.out (by kernel_rfl)) (by decide) (fun K hK => ?_)
                                  refine goes_ Try.func26 (by kernel_rfl) rfl #[.agg #[.int .i64 a0_0, .int .i64 a0_1, .int .i64 a0_2, .int .i64 a0_3, .int .i64 a0_4], .int .i64 a1, .int .i64 ((rd_T86 t130 x62_2).f0)] (by rfl) rfl rfl (by (try simp only [List.map_toArray, List.map_cons, List.map_nil]); first | done | rfl | (simp only [List.length_drop, List.length_take]; rfl)) ?_
                                  with_reducible refine (geom_Parity.calls a0_0 a0_1 a0_2 a0_3 a0_4 a1 ((rd_T86 t130 x62_2).f0) t141 _ A55.out).mono ?_
                                  rintro e w79 ⟨rfl, hb⟩
                                  refine ⟨_, rfl, ?_⟩
                                  have n0_ := Aside0.mk (Kd.R_below (by (with_reducible repeat (first | apply Kd.R_alloc | apply Kd.R_drewN | apply Kd.R_drew)); exact HO_10.out) hb)
                                  have n1_ := Aside0.mk (Kd.R_below (by (with_reducible repeat (first | apply Kd.R_alloc | apply Kd.R_drewN | apply Kd.R_drew)); exact HO_60.out) hb)
                                  have n2_ := Aside0.mk (blk_below (g := gb125) (o := .cells #[.int .i64 a0_0, .int .i64 a0_1, .int .i64 a0_2, .int .i64 a0_3, .int .i64 a0_4] 30 (0, 0)) (by (with_reducible repeat (first | refine blk_drewN ?_ _ | refine blk_drew ?_ | refine blk_alloc ?_ _)); exact BK125.out) hb)
                                  have n3_ := Aside0.mk (blk_below (g := gb134) (o := .cells #[.int .i64 ((rd_T86 t130 x62_2).f0), .int .i64 ((rd_T86 t130 x62_2).f1), .int .i64 ((rd_T86 t130 x62_2).f2)] 86 (0, 0)) (by (with_reducible repeat (first | refine blk_drewN ?_ _ | refine blk_drew ?_ | refine blk_alloc ?_ _)); exact BK134.out) hb)
                                  have n4_ := Aside0.mk (blk_below (g := gb142) (o := .cells #[.int .i64 0, .int .i64 0, .int .i64 0, .int .i64 0, .int .i64 0] 37 (0, 0)) (by (with_reducible repeat (first | refine blk_drewN ?_ _ | refine blk_drew ?_ | refine blk_alloc ?_ _)); exact BK142.out) hb)
                                  have n5_ := Aside0.mk (below_step (by repeat (first | (with_reducible first | exact HB.out | apply below_alloc | apply pw_below_drewN | apply below_drew1 | refine below_set ?_ GE125.out | refine below_set ?_ GE134.out | refine below_set ?_ GE142.out) | exact HB.out)) hb)
                                  clear HO_10
                                  clear HO_60
                                  clear BK125
                                  clear BK134
                                  clear BK142
                                  clear HB
                                  have HO_10 := n0_
                                  have HO_60 := n1_
                                  have BK125 := n2_
                                  have BK134 := n3_
                                  have BK142 := n4_
                                  have HB := n5_
                                  clear n0_ n1_ n2_ n3_ n4_ n5_
                                  (try clear hb)
                                  (try clear hb2)
                                  (try clear hk)
                                  (try clear hi)
                                  refine hK.out _ _ ⟨(blk_cell BK125.out 0).trans rfl, (blk_cell BK125.out 1).trans rfl, (blk_cell BK125.out 2).trans rfl, (blk_cell BK125.out 3).trans rfl, (blk_cell BK125.out 4).trans rfl, (blk_cell BK134.out 0).trans rfl, (blk_cell BK134.out 1).trans rfl, (blk_cell BK134.out 2).trans rfl⟩ (fun hHeld => ?_)
                                  clear hK K
                                  refine norm_ (a' := ?_) ?_ ?_
                                  rotate_left
                                  · show Act.put _ (some 101) _ = _
                                    simp only [Act.put, List.setIfInBounds_toArray, List.set_cons_zero, List.set_cons_succ, i64_w, i32_w]
                                    rfl
                                  refine pure_ (i := 7) (N := some 104) (v := ?_) (a' := ?_) #[true, true, true, true, true, true, true, true, true, false] rfl rfl (any_of HT_.out (by kernel_rfl)) (fun _ _ _ h => h) (Or.inl ⟨by rfl, ?_⟩) ?_ ?_
                                  rotate_left
                                  · intro w'
                                    go_simp
                                    with_reducible rfl
                                  rotate_left
                                  · simp only [Act.put, List.setIfInBounds_toArray, List.set_cons_zero, List.set_cons_succ, i64_w, i32_w]
                                    rfl
                                  exact norm_ (by simp only [putAll, Act.put, List.setIfInBounds_toArray, List.set_cons_zero, List.set_cons_succ]) (hCont (gb142) _ ⟨hHeld, (by (with_reducible repeat (first | apply Kd.R_alloc | apply Kd.R_drewN | apply Kd.R_drew)); exact Kd.R_mono HO_10.out (fun _ hk => hk.2)), (by (with_reducible repeat (first | apply Kd.R_alloc | apply Kd.R_drewN | apply Kd.R_drew)); exact HO_60.out), (by (with_reducible repeat (first | refine blk_drewN ?_ _ | refine blk_drew ?_ | refine blk_alloc ?_ _)); exact BK125.out), (by (with_reducible repeat (first | refine blk_drewN ?_ _ | refine blk_drew ?_ | refine blk_alloc ?_ _)); exact BK134.out), (by (with_reducible repeat (first | refine blk_drewN ?_ _ | refine blk_drew ?_ | refine blk_alloc ?_ _)); exact BK142.out), GW142.out, GE142.out, NB125_142.out, NB142_125.out, NB134_142.out, NB142_134.out, (by repeat (first | (with_reducible first | exact HB.out | apply below_alloc | apply pw_below_drewN | apply below_drew1 | refine below_set ?_ GE125.out | refine below_set ?_ GE134.out | refine below_set ?_ GE142.out) | exact HB.out))⟩)
                              rintro gb142 w80 ⟨hS_, h0_, h1_, h2_, h3_, h4_, h5_, h6_, h7_, h8_, h9_, h10_, h11_⟩
                              have n0_ : Aside0 (Kd.R k37 37 w80 w.heap.size (fun k_ => k_ ≠ gb142) u10 x10_3) := ⟨h0_⟩
                              have n1_ : Aside0 (Kd.R k86 86 w80 w.heap.size (fun k_ => k_ ≠ gb134) (.slice (some ad133) t130.length co40) t130) := ⟨h1_⟩
                              have n2_ : Aside0 (w80.heap[gb125]? = some (.cells #[.int .i64 a0_0, .int .i64 a0_1, .int .i64 a0_2, .int .i64 a0_3, .int .i64 a0_4] 30 (0, 0))) := ⟨h2_⟩
                              have n3_ : Aside0 (w80.heap[gb134]? = some (.cells #[.int .i64 ((rd_T86 t130 x62_2).f0), .int .i64 ((rd_T86 t130 x62_2).f1), .int .i64 ((rd_T86 t130 x62_2).f2)] 86 (0, 0))) := ⟨h3_⟩
                              have n4_ : Aside0 (w80.heap[gb142]? = some (.cells #[.int .i64 0, .int .i64 0, .int .i64 0, .int .i64 0, .int .i64 0] 37 (0, 0))) := ⟨h4_⟩
                              have n5_ : Aside0 (w.heap.size ≤ gb142) := ⟨h5_⟩
                              have n6_ : Aside0 (w.heap.size ≤ gb142) := ⟨h6_⟩
                              have n7_ : Aside0 (gb125 ≠ gb142) := ⟨h7_⟩
                              have n8_ : Aside0 (gb142 ≠ gb125) := ⟨h8_⟩
                              have n9_ : Aside0 (gb134 ≠ gb142) := ⟨h9_⟩
                              have n10_ : Aside0 (gb142 ≠ gb134) := ⟨h10_⟩
                              have n11_ : Aside0 (Below w.heap.size w w80) := ⟨h11_⟩
                              clear HO_10
                              clear HO_60
                              clear BK125
                              clear BK134
                              clear HB
                              clear h0_ h1_ h2_ h3_ h4_ h5_ h6_ h7_ h8_ h9_ h10_ h11_
                              have HO_10 := n0_
                              have HO_60 := n1_
                              have BK125 := n2_
                              have BK134 := n3_
                              have BK142 := n4_
                              have GW142 := n5_
                              have GE142 := n6_
                              have NB125_142 := n7_
                              have NB142_125 := n8_
                              have NB134_142 := n9_
                              have NB142_134 := n10_
                              have HB := n11_
                              clear n0_ n1_ n2_ n3_ n4_ n5_ n6_ n7_ n8_ n9_ n10_ n11_
                              have hHeld : w80.cell? ⟨gb125, 0, none⟩ = some (.int .i64 a0_0) ∧ w80.cell? ⟨gb125, 1, none⟩ = some (.int .i64 a0_1) ∧ w80.cell? ⟨gb125, 2, none⟩ = some (.int .i64 a0_2) ∧ w80.cell? ⟨gb125, 3, none⟩ = some (.int .i64 a0_3) ∧ w80.cell? ⟨gb125, 4, none⟩ = some (.int .i64 a0_4) ∧ w80.cell? ⟨gb134, 0, none⟩ = some (.int .i64 ((rd_T86 t130 x62_2).f0)) ∧ w80.cell? ⟨gb134, 1, none⟩ = some (.int .i64 ((rd_T86 t130 x62_2).f1)) ∧ w80.cell? ⟨gb134, 2, none⟩ = some (.int .i64 ((rd_T86 t130 x62_2).f2)) := hS_
                              refine norm_ (a' := ?_) ?_ ?_
                              rotate_left
                              · simp only [putAll, Act.put, List.setIfInBounds_toArray, List.set_cons_zero, List.set_cons_succ]
                                rfl
                              refine one_ (i := 9) (N := none) #[true, true, true, true, true, true, true, true, true, true] rfl rfl (one_of HT_.out (by kernel_rfl)) (by decide) (fun K hK => ?_)
                              have hs81 : w80.cell? ⟨gb142, 0, none⟩ = some (.int .i64 0) := (blk_cell BK142.out 0).trans rfl
                              have hfs81 := blk_frozen BK142.out 0
                              have hns81_0 := NB125_142.out
                              have hns81_1 := NB134_142.out
                              have hms81_0 := NB142_125.out
                              have hms81_1 := NB142_134.out
                              have hs82 : w80.cell? ⟨gb142, 1, none⟩ = some (.int .i64 0) := (blk_cell BK142.out 1).trans rfl
                              have hfs82 := blk_frozen BK142.out 1
                              have hns82_0 := NB125_142.out
                              have hns82_1 := NB134_142.out
                              have hms82_0 := NB142_125.out
                              have hms82_1 := NB142_134.out
                              have hs83 : w80.cell? ⟨gb142, 2, none⟩ = some (.int .i64 0) := (blk_cell BK142.out 2).trans rfl
                              have hfs83 := blk_frozen BK142.out 2
                              have hns83_0 := NB125_142.out
                              have hns83_1 := NB134_142.out
                              have hms83_0 := NB142_125.out
                              have hms83_1 := NB142_134.out
                              have hs84 : w80.cell? ⟨gb142, 3, none⟩ = some (.int .i64 0) := (blk_cell BK142.out 3).trans rfl
                              have hfs84 := blk_frozen BK142.out 3
                              have hns84_0 := NB125_142.out
                              have hns84_1 := NB134_142.out
                              have hms84_0 := NB142_125.out
                              have hms84_1 := NB142_134.out
                              have hs85 : w80.cell? ⟨gb142, 4, none⟩ = some (.int .i64 0) := (blk_cell BK142.out 4).trans rfl
                              have hfs85 := blk_frozen BK142.out 4
                              have hns85_0 := NB125_142.out
                              have hns85_1 := NB134_142.out
                              have hms85_0 := NB142_125.out
                              have hms85_1 := NB142_134.out
                              refine skip_ (w1 := ?_) (by rfl) rfl ?_ ?_
                              rotate_left
                              · go_simp
                                rfl
                              refine hK.out _ _ ⟨((cell_far (p := ⟨gb142, _, none⟩) NB125_142.out _).trans (((cell_far (p := ⟨gb142, _, none⟩) NB125_142.out _).trans (((cell_far (p := ⟨gb142, _, none⟩) NB125_142.out _).trans (((cell_far (p := ⟨gb142, _, none⟩) NB125_142.out _).trans (((cell_far (p := ⟨gb142, _, none⟩) NB125_142.out _).trans (hHeld.1)))))))))), ((cell_far (p := ⟨gb142, _, none⟩) NB125_142.out _).trans (((cell_far (p := ⟨gb142, _, none⟩) NB125_142.out _).trans (((cell_far (p := ⟨gb142, _, none⟩) NB125_142.out _).trans (((cell_far (p := ⟨gb142, _, none⟩) NB125_142.out _).trans (((cell_far (p := ⟨gb142, _, none⟩) NB125_142.out _).trans (hHeld.2.1)))))))))), ((cell_far (p := ⟨gb142, _, none⟩) NB125_142.out _).trans (((cell_far (p := ⟨gb142, _, none⟩) NB125_142.out _).trans (((cell_far (p := ⟨gb142, _, none⟩) NB125_142.out _).trans (((cell_far (p := ⟨gb142, _, none⟩) NB125_142.out _).trans (((cell_far (p := ⟨gb142, _, none⟩) NB125_142.out _).trans (hHeld.2.2.1)))))))))), ((cell_far (p := ⟨gb142, _, none⟩) NB125_142.out _).trans (((cell_far (p := ⟨gb142, _, none⟩) NB125_142.out _).trans (((cell_far (p := ⟨gb142, _, none⟩) NB125_142.out _).trans (((cell_far (p := ⟨gb142, _, none⟩) NB125_142.out _).trans (((cell_far (p := ⟨gb142, _, none⟩) NB125_142.out _).trans (hHeld.2.2.2.1)))))))))), ((cell_far (p := ⟨gb142, _, none⟩) NB125_142.out _).trans (((cell_far (p := ⟨gb142, _, none⟩) NB125_142.out _).trans (((cell_far (p := ⟨gb142, _, none⟩) NB125_142.out _).trans (((cell_far (p := ⟨gb142, _, none⟩) NB125_142.out _).trans (((cell_far (p := ⟨gb142, _, none⟩) NB125_142.out _).trans (hHeld.2.2.2.2.1)))))))))), ((cell_far (p := ⟨gb142, _, none⟩) NB134_142.out _).trans (((cell_far (p := ⟨gb142, _, none⟩) NB134_142.out _).trans (((cell_far (p := ⟨gb142, _, none⟩) NB134_142.out _).trans (((cell_far (p := ⟨gb142, _, none⟩) NB134_142.out _).trans (((cell_far (p := ⟨gb142, _, none⟩) NB134_142.out _).trans (hHeld.2.2.2.2.2.1)))))))))), ((cell_far (p := ⟨gb142, _, none⟩) NB134_142.out _).trans (((cell_far (p := ⟨gb142, _, none⟩) NB134_142.out _).trans (((cell_far (p := ⟨gb142, _, none⟩) NB134_142.out _).trans (((cell_far (p := ⟨gb142, _, none⟩) NB134_142.out _).trans (((cell_far (p := ⟨gb142, _, none⟩) NB134_142.out _).trans (hHeld.2.2.2.2.2.2.1)))))))))), ((cell_far (p := ⟨gb142, _, none⟩) NB134_142.out _).trans (((cell_far (p := ⟨gb142, _, none⟩) NB134_142.out _).trans (((cell_far (p := ⟨gb142, _, none⟩) NB134_142.out _).trans (((cell_far (p := ⟨gb142, _, none⟩) NB134_142.out _).trans (((cell_far (p := ⟨gb142, _, none⟩) NB134_142.out _).trans (hHeld.2.2.2.2.2.2.2))))))))))⟩ (fun hHeld => ?_)
                              clear hK K
                              refine done_ (done_of HT_.out (by kernel_rfl)) ?_
                              have hnb86 := NB134_142.out
                              have hnc86 := NB142_134.out
                              have hcz87_0 : w80.cell? ⟨gb134, 0, none⟩ = some (.int .i64 ((rd_T86 t130 x62_2).f0)) := (blk_cell BK134.out 0).trans rfl
                              have hcz87_1 : w80.cell? ⟨gb134, 1, none⟩ = some (.int .i64 ((rd_T86 t130 x62_2).f1)) := (blk_cell BK134.out 1).trans rfl
                              have hcz87_2 : w80.cell? ⟨gb134, 2, none⟩ = some (.int .i64 ((rd_T86 t130 x62_2).f2)) := (blk_cell BK134.out 2).trans rfl
                              have hfz87_0 := blk_frozen BK134.out 0
                              have hfz87_1 := blk_frozen BK134.out 1
                              have hfz87_2 := blk_frozen BK134.out 2
                              have hnb88 := NB142_125.out
                              have hnc88 := NB125_142.out
                              have hcz89_0 : w80.cell? ⟨gb142, 0, none⟩ = some (.int .i64 0) := (blk_cell BK142.out 0).trans rfl
                              have hcz89_1 : w80.cell? ⟨gb142, 1, none⟩ = some (.int .i64 0) := (blk_cell BK142.out 1).trans rfl
                              have hcz89_2 : w80.cell? ⟨gb142, 2, none⟩ = some (.int .i64 0) := (blk_cell BK142.out 2).trans rfl
                              have hcz89_3 : w80.cell? ⟨gb142, 3, none⟩ = some (.int .i64 0) := (blk_cell BK142.out 3).trans rfl
                              have hcz89_4 : w80.cell? ⟨gb142, 4, none⟩ = some (.int .i64 0) := (blk_cell BK142.out 4).trans rfl
                              have hfz89_0 := blk_frozen BK142.out 0
                              have hfz89_1 := blk_frozen BK142.out 1
                              have hfz89_2 := blk_frozen BK142.out 2
                              have hfz89_3 := blk_frozen BK142.out 3
                              have hfz89_4 := blk_frozen BK142.out 4
                              have hcdz89_0 : ∀ v0_ v1_ v2_ v3_ v4_ : Value, (((((w80.setCell ⟨gb142, 0, none⟩ v0_).setCell ⟨gb142, 1, none⟩ v1_).setCell ⟨gb142, 2, none⟩ v2_).setCell ⟨gb142, 3, none⟩ v3_).setCell ⟨gb142, 4, none⟩ v4_).cell? ⟨gb142, 0, none⟩ = some v0_ := fun v0_ v1_ v2_ v3_ v4_ => (cell_set_past (cell_set_past (cell_set_past (cell_set_past (cell_set_twice hcz89_0) (by simp)) (by simp)) (by simp)) (by simp))
                              have hcdz89_1 : ∀ v0_ v1_ v2_ v3_ v4_ : Value, (((((w80.setCell ⟨gb142, 0, none⟩ v0_).setCell ⟨gb142, 1, none⟩ v1_).setCell ⟨gb142, 2, none⟩ v2_).setCell ⟨gb142, 3, none⟩ v3_).setCell ⟨gb142, 4, none⟩ v4_).cell? ⟨gb142, 1, none⟩ = some v1_ := fun v0_ v1_ v2_ v3_ v4_ => (cell_set_past (cell_set_past (cell_set_past (cell_set_twice (cell_set_past hcz89_1 (by simp))) (by simp)) (by simp)) (by simp))
                              have hcdz89_2 : ∀ v0_ v1_ v2_ v3_ v4_ : Value, (((((w80.setCell ⟨gb142, 0, none⟩ v0_).setCell ⟨gb142, 1, none⟩ v1_).setCell ⟨gb142, 2, none⟩ v2_).setCell ⟨gb142, 3, none⟩ v3_).setCell ⟨gb142, 4, none⟩ v4_).cell? ⟨gb142, 2, none⟩ = some v2_ := fun v0_ v1_ v2_ v3_ v4_ => (cell_set_past (cell_set_past (cell_set_twice (cell_set_past (cell_set_past hcz89_2 (by simp)) (by simp))) (by simp)) (by simp))
                              have hcdz89_3 : ∀ v0_ v1_ v2_ v3_ v4_ : Value, (((((w80.setCell ⟨gb142, 0, none⟩ v0_).setCell ⟨gb142, 1, none⟩ v1_).setCell ⟨gb142, 2, none⟩ v2_).setCell ⟨gb142, 3, none⟩ v3_).setCell ⟨gb142, 4, none⟩ v4_).cell? ⟨gb142, 3, none⟩ = some v3_ := fun v0_ v1_ v2_ v3_ v4_ => (cell_set_past (cell_set_twice (cell_set_past (cell_set_past (cell_set_past hcz89_3 (by simp)) (by simp)) (by simp))) (by simp))
                              have hcdz89_4 : ∀ v0_ v1_ v2_ v3_ v4_ : Value, (((((w80.setCell ⟨gb142, 0, none⟩ v0_).setCell ⟨gb142, 1, none⟩ v1_).setCell ⟨gb142, 2, none⟩ v2_).setCell ⟨gb142, 3, none⟩ v3_).setCell ⟨gb142, 4, none⟩ v4_).cell? ⟨gb142, 4, none⟩ = some v4_ := fun v0_ v1_ v2_ v3_ v4_ => (cell_set_twice (cell_set_past (cell_set_past (cell_set_past (cell_set_past hcz89_4 (by simp)) (by simp)) (by simp)) (by simp)))
                              try go_wp2_with (first | ((with_reducible refine gate_builtin (b := .append) (xs := #[.tmp 116, .tmp 118]) rfl ?_); at_builtin; refine Kd.R_append k37 (w0 := w) w.heap.size rfl (.tmp 116) (.tmp 118) 26 37 (.agg #[(.int .i64 0), (.int .i64 0), (.int .i64 0), (.int .i64 0), (.int .i64 0)]) 40 rfl Try.underlying26 info37 rfl (by decide) (by omega) u10 x10_3 (⟨2, t141, ((rd_T86 t130 x62_2).f0), 0, 0⟩ : S37) [.int .i64 2, .int .i64 t141, .int .i64 ((rd_T86 t130 x62_2).f0), .int .i64 0, .int .i64 0] (fun k_ => k_ ≠ gb142) (fun _ => False) rfl (by first | (go_simp; done) | (go_simp; rfl)) ?aP (fun _ hk => hk.elim) ?aF ?aO ?aB ?aS ?aL ?_; (case aP => exact k37_mkM _ _ _ (⟨2, t141, ((rd_T86 t130 x62_2).f0), 0, 0⟩ : S37)); (case aB => exact (by repeat (first | (with_reducible first | exact HB.out | apply below_alloc | apply pw_below_drewN | apply below_drew1 | refine below_set ?_ GE125.out | refine below_set ?_ GE134.out | refine below_set ?_ GE142.out) | exact HB.out))); (case aF => exact (fun k_ hk => Kd.freshB (g := gb142) (o := .cells #[.int .i64 2, .int .i64 t141, .int .i64 ((rd_T86 t130 x62_2).f0), .int .i64 0, .int .i64 0] 37 (0, 0)) (by (with_reducible repeat (first | refine blk_drewN ?_ _ | refine blk_drew ?_ | refine blk_alloc ?_ _)); refine blk_put (cs := #[.int .i64 2, .int .i64 t141, .int .i64 ((rd_T86 t130 x62_2).f0), .int .i64 0, .int .i64 0]) ?_ 4 _ rfl; (with_reducible repeat (first | refine blk_drewN ?_ _ | refine blk_drew ?_ | refine blk_alloc ?_ _)); refine blk_put (cs := #[.int .i64 2, .int .i64 t141, .int .i64 ((rd_T86 t130 x62_2).f0), .int .i64 0, .int .i64 0]) ?_ 3 _ rfl; (with_reducible repeat (first | refine blk_drewN ?_ _ | refine blk_drew ?_ | refine blk_alloc ?_ _)); refine blk_put (cs := #[.int .i64 2, .int .i64 t141, .int .i64 0, .int .i64 0, .int .i64 0]) ?_ 2 _ rfl; (with_reducible repeat (first | refine blk_drewN ?_ _ | refine blk_drew ?_ | refine blk_alloc ?_ _)); refine blk_put (cs := #[.int .i64 2, .int .i64 0, .int .i64 0, .int .i64 0, .int .i64 0]) ?_ 1 _ rfl; (with_reducible repeat (first | refine blk_drewN ?_ _ | refine blk_drew ?_ | refine blk_alloc ?_ _)); refine blk_put (cs := #[.int .i64 0, .int .i64 0, .int .i64 0, .int .i64 0, .int .i64 0]) ?_ 0 _ rfl; (with_reducible repeat (first | refine blk_drewN ?_ _ | refine blk_drew ?_ | refine blk_alloc ?_ _)); exact BK142.out) k_ hk)); (case aO => exact (by (with_reducible repeat (first | apply Kd.R_alloc | apply Kd.R_drewN | apply Kd.R_drew)); exact Kd.R_mono (Kd.R_far (p := ⟨gb142, 4, none⟩) (Kd.R_far (p := ⟨gb142, 3, none⟩) (Kd.R_far (p := ⟨gb142, 2, none⟩) (Kd.R_far (p := ⟨gb142, 1, none⟩) (Kd.R_far (p := ⟨gb142, 0, none⟩) (Kd.R_mono HO_10.out (fun k_ hk => (⟨hk, hk⟩ : _ ∧ k_ ≠ gb142))) (fun _ hk => hk.2) (.int .i64 2)) (fun _ hk => hk.2) (.int .i64 t141)) (fun _ hk => hk.2) (.int .i64 ((rd_T86 t130 x62_2).f0))) (fun _ hk => hk.2) (.int .i64 0)) (fun _ hk => hk.2) (.int .i64 0)) (fun _ hk => hk.1))); (case aS => exact (below_size (by repeat (first | (with_reducible first | exact HB.out | apply below_alloc | apply pw_below_drewN | apply below_drew1 | refine below_set ?_ GE125.out | refine below_set ?_ GE134.out | refine below_set ?_ GE142.out) | exact HB.out)))); (case aL => have := LMc74.out; omega); intro v147 w90 ho hb hg hat; rw [← Ny146.out] at ho; have n0_ := Aside0.mk (Kd.R_over' (by (with_reducible repeat (first | apply Kd.R_alloc | apply Kd.R_drewN | apply Kd.R_drew)); exact (Kd.R_mono (Kd.R_far (p := ⟨gb142, 4, none⟩) (Kd.R_far (p := ⟨gb142, 3, none⟩) (Kd.R_far (p := ⟨gb142, 2, none⟩) (Kd.R_far (p := ⟨gb142, 1, none⟩) (Kd.R_far (p := ⟨gb142, 0, none⟩) (Kd.R_types HO_60.out BK142.out (by decide)) (fun _ hk => hk.2) (.int .i64 2)) (fun _ hk => hk.2) (.int .i64 t141)) (fun _ hk => hk.2) (.int .i64 ((rd_T86 t130 x62_2).f0))) (fun _ hk => hk.2) (.int .i64 0)) (fun _ hk => hk.2) (.int .i64 0)) (fun _ h_ => h_.1))) (Kd.R_typed (by (with_reducible repeat (first | apply Kd.R_alloc | apply Kd.R_drewN | apply Kd.R_drew)); exact (Kd.R_mono (Kd.R_far (p := ⟨gb142, 4, none⟩) (Kd.R_far (p := ⟨gb142, 3, none⟩) (Kd.R_far (p := ⟨gb142, 2, none⟩) (Kd.R_far (p := ⟨gb142, 1, none⟩) (Kd.R_far (p := ⟨gb142, 0, none⟩) (Kd.R_mono HO_10.out (fun k_ hk => (⟨hk, hk⟩ : _ ∧ k_ ≠ gb142))) (fun _ hk => hk.2) (.int .i64 2)) (fun _ hk => hk.2) (.int .i64 t141)) (fun _ hk => hk.2) (.int .i64 ((rd_T86 t130 x62_2).f0))) (fun _ hk => hk.2) (.int .i64 0)) (fun _ hk => hk.2) (.int .i64 0)) (fun _ h_ => h_.1)))) (by decide) hg); have n1_ := Aside0.mk (blk_grown (g := gb125) (o := .cells #[.int .i64 a0_0, .int .i64 a0_1, .int .i64 a0_2, .int .i64 a0_3, .int .i64 a0_4] 30 (0, 0)) (by (with_reducible repeat (first | refine blk_drewN ?_ _ | refine blk_drew ?_ | refine blk_alloc ?_ _ | refine blk_far ?_ NB125_142.out _)); exact BK125.out) hg (Kd.R_ne HO_10.out BK125.out (by decide))); have n2_ := Aside0.mk (blk_grown (g := gb134) (o := .cells #[.int .i64 ((rd_T86 t130 x62_2).f0), .int .i64 ((rd_T86 t130 x62_2).f1), .int .i64 ((rd_T86 t130 x62_2).f2)] 86 (0, 0)) (by (with_reducible repeat (first | refine blk_drewN ?_ _ | refine blk_drew ?_ | refine blk_alloc ?_ _ | refine blk_far ?_ NB134_142.out _)); exact BK134.out) hg (Kd.R_ne HO_10.out BK134.out (by decide))); have n3_ := Aside0.mk (blk_grown (g := gb142) (o := .cells #[.int .i64 2, .int .i64 t141, .int .i64 ((rd_T86 t130 x62_2).f0), .int .i64 0, .int .i64 0] 37 (0, 0)) (by (with_reducible repeat (first | refine blk_drewN ?_ _ | refine blk_drew ?_ | refine blk_alloc ?_ _)); refine blk_put (cs := #[.int .i64 2, .int .i64 t141, .int .i64 ((rd_T86 t130 x62_2).f0), .int .i64 0, .int .i64 0]) ?_ 4 _ rfl; (with_reducible repeat (first | refine blk_drewN ?_ _ | refine blk_drew ?_ | refine blk_alloc ?_ _)); refine blk_put (cs := #[.int .i64 2, .int .i64 t141, .int .i64 ((rd_T86 t130 x62_2).f0), .int .i64 0, .int .i64 0]) ?_ 3 _ rfl; (with_reducible repeat (first | refine blk_drewN ?_ _ | refine blk_drew ?_ | refine blk_alloc ?_ _)); refine blk_put (cs := #[.int .i64 2, .int .i64 t141, .int .i64 0, .int .i64 0, .int .i64 0]) ?_ 2 _ rfl; (with_reducible repeat (first | refine blk_drewN ?_ _ | refine blk_drew ?_ | refine blk_alloc ?_ _)); refine blk_put (cs := #[.int .i64 2, .int .i64 0, .int .i64 0, .int .i64 0, .int .i64 0]) ?_ 1 _ rfl; (with_reducible repeat (first | refine blk_drewN ?_ _ | refine blk_drew ?_ | refine blk_alloc ?_ _)); refine blk_put (cs := #[.int .i64 0, .int .i64 0, .int .i64 0, .int .i64 0, .int .i64 0]) ?_ 0 _ rfl; (with_reducible repeat (first | refine blk_drewN ?_ _ | refine blk_drew ?_ | refine blk_alloc ?_ _)); exact BK142.out) hg (Kd.R_away HO_10.out (fun _ hk => hk))); have n4_ := Aside0.mk (hb); have n5_ := Aside0.mk (ho); clear HO_60; clear BK125; clear BK134; clear BK142; clear HB; clear HO_10; have HO_60 := n0_; have BK125 := n1_; have BK134 := n2_; have BK142 := n3_; have HB := n4_; have HO148 := n5_; clear n0_ n1_ n2_ n3_ n4_ n5_; clear ho hb hg hat))
                              go_roundg k3
                              case measure => have := HJ6.out; have := HK2.out; have := HK3.out; omega
                              case rel => exact ⟨(y146), (wrap64 (x62_2 + 1)), (by first | rfl | (simp; done) | (simp [*]; done)), H', ⟨by have := HJ6.out; have := HK2.out; have := HK3.out; omega⟩, ⟨by (with_reducible repeat (first | apply Kd.R_alloc | apply Kd.R_drewN | apply Kd.R_drew)); exact Kd.R_mono HO148.out (fun _ hk => trivial)⟩, ⟨by (with_reducible repeat (first | apply Kd.R_alloc | apply Kd.R_drewN | apply Kd.R_drew)); exact Kd.R_mono HO_60.out (fun _ hk => trivial)⟩, ⟨by (with_reducible repeat (first | refine blk_drewN ?_ _ | refine blk_drew ?_ | refine blk_alloc ?_ _)); exact BK125.out⟩, ⟨by repeat (first | (with_reducible first | exact HB.out | apply below_alloc | apply pw_below_drewN | apply below_drew1 | refine below_set ?_ GE125.out | refine below_set ?_ GE134.out | refine below_set ?_ GE142.out) | exact HB.out)⟩⟩
                            · rw [if_neg c74] at H
                              exact absurd H (by simp)
                  · rw [if_neg c43] at H
                    exact absurd H (by simp)
                · rw [if_neg c42] at H
                  exact absurd H (by simp)
              · rw [if_neg c41] at H
                have c41b0 : decide (x62_2 < (t130.length : Int)) = false := decide_eq_false c41
                clear c41
                simp only [Option.some.injEq, Prod.mk.injEq] at H
                obtain ⟨rfl, rfl⟩ := H
                go_wp2
                all_goals go_ret2
                all_goals exact ⟨_, by first | rfl | (simp [errW_none, errW_some] <;> rfl) | (simp [*, errW_none, errW_some] <;> rfl), by (with_reducible repeat (first | apply Kd.R_alloc | apply Kd.R_drewN | apply Kd.R_drew)); exact HO_10.out, by repeat (first | (with_reducible first | exact HB.out | apply below_alloc | apply pw_below_drewN | apply below_drew1 | refine below_set ?_ GE125.out) | exact HB.out)⟩
  · replace c6 := Bool.eq_false_iff.mpr c6
    subst c6
    have H1 : (some (([] : List (S37)), 1)) = some (r1, r2) := by rw [if_neg (show ¬ (false = true) by decide)] at H; exact H
    clear H
    have H := H1
    clear H1
    simp only [Option.some.injEq, Prod.mk.injEq] at H
    obtain ⟨rfl, rfl⟩ := H
    go_enter Try.func16, Try.ntmps16
    go_wp2_with (first | ((with_reducible refine gate_dst (N := 4) rfl ?_); refine box_event ?hg (N := 4) ?hd (cs := #[.int .i64 a0_0, .int .i64 a0_1, .int .i64 a0_2, .int .i64 a0_3, .int .i64 a0_4]) (t := 30) ?hr ?_; (case hd => rfl); (case hg => rfl); (case hr => first | (go_simp; done) | (go_simp; rfl)); intro gb125 hg w91 hbox hb; have n0_ := Aside0.mk (below_step (by repeat (first | (with_reducible first | exact HB.out | apply below_alloc | apply pw_below_drewN | apply below_drew1) | exact HB.out)) hb); have n1_ := Aside0.mk (hbox); have n2_ := Aside0.mk ((by rw [hg]; exact (below_size (by repeat (first | (with_reducible first | exact HB.out | apply below_alloc | apply pw_below_drewN | apply below_drew1) | exact HB.out))) : w.heap.size ≤ gb125)); have n3_ := Aside0.mk ((by rw [hg]; exact (below_size (by repeat (first | (with_reducible first | exact HB.out | apply below_alloc | apply pw_below_drewN | apply below_drew1) | exact HB.out))) : w.heap.size ≤ gb125)); clear HB; have HB := n0_; have BK125 := n1_; have GW125 := n2_; have GE125 := n3_; clear n0_ n1_ n2_ n3_; clear hb hbox hg; have hcz92_0 : w91.cell? ⟨gb125, 0, none⟩ = some (.int .i64 a0_0) := (blk_cell BK125.out 0).trans rfl; have hcz92_1 : w91.cell? ⟨gb125, 1, none⟩ = some (.int .i64 a0_1) := (blk_cell BK125.out 1).trans rfl; have hcz92_2 : w91.cell? ⟨gb125, 2, none⟩ = some (.int .i64 a0_2) := (blk_cell BK125.out 2).trans rfl; have hcz92_3 : w91.cell? ⟨gb125, 3, none⟩ = some (.int .i64 a0_3) := (blk_cell BK125.out 3).trans rfl; have hcz92_4 : w91.cell? ⟨gb125, 4, none⟩ = some (.int .i64 a0_4) := (blk_cell BK125.out 4).trans rfl; have hfz92_0 := blk_frozen BK125.out 0; have hfz92_1 := blk_frozen BK125.out 1; have hfz92_2 := blk_frozen BK125.out 2; have hfz92_3 := blk_frozen BK125.out 3; have hfz92_4 := blk_frozen BK125.out 4) | ((with_reducible refine gate_callee (f := 36) rfl ?_); refine goesL_ (some 22) rfl rfl Try.func36 (by kernel_rfl) rfl #[.agg #[.int .i64 a0_0, .int .i64 a0_1, .int .i64 a0_2, .int .i64 a0_3, .int .i64 a0_4]] rfl (by (try simp only [List.map_toArray, List.map_cons, List.map_nil]); first | done | rfl | (simp only [List.length_drop, List.length_take]; rfl)) ?_; (with_reducible refine (geom_Good.calls a0_0 a0_1 a0_2 a0_3 a0_4 false _ A5.out).mono ?_); rintro e w93 ⟨rfl, hb⟩; refine ⟨_, rfl, ?_⟩; have n0_ := Aside0.mk (blk_below (g := gb125) (o := .cells #[.int .i64 a0_0, .int .i64 a0_1, .int .i64 a0_2, .int .i64 a0_3, .int .i64 a0_4] 30 (0, 0)) (by (with_reducible repeat (first | refine blk_drewN ?_ _ | refine blk_drew ?_ | refine blk_alloc ?_ _)); exact BK125.out) hb); have n1_ := Aside0.mk (below_step (by repeat (first | (with_reducible first | exact HB.out | apply below_alloc | apply pw_below_drewN | apply below_drew1 | refine below_set ?_ GE125.out) | exact HB.out)) hb); clear BK125; clear HB; have BK125 := n0_; have HB := n1_; clear n0_ n1_; (try clear hb); (try clear hb2); (try clear hk); (try clear hi)))
    all_goals go_ret2
    all_goals exact ⟨_, by first | rfl | (simp [errW_none, errW_some] <;> rfl) | (simp [*, errW_none, errW_some] <;> rfl), by first | exact Kd.R_nil _ _ _ _ _ | exact Kd.N_nil _ _ _ _ _ | exact Kd.V_nil _ _ _ _ _ | exact Kd.Q_nil _ _ _ _ _ | exact Kd.S_nil _ _ _ _ _, by repeat (first | (with_reducible first | exact HB.out | apply below_alloc | apply pw_below_drewN | apply below_drew1 | refine below_set ?_ GE125.out) | exact HB.out)⟩

end Go.Proofs.Ytcikcikcjimcjaa.PPlanParts
