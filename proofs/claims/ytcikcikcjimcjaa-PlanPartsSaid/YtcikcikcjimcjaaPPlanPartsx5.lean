-- written by a program of this session (a print that was turned for this claim)
import Derived.Test.YtcikcikcjimcjaaPPlanPartsx0
import Derived.Test.YtcikcikcjimcjaaPPlanPartsx1
import Derived.Test.YtcikcikcjimcjaaPPlanPartsx4
namespace Go.Proofs.Ytcikcikcjimcjaa.PPlanParts
open Go.RowKit Go.Proofs.YtcikcikcjimcjaaW.PrintWords Go.Proofs.YtcikcikcjimcjaaW.PrintLast Go.Proofs.YtcikcikcjimcjaaW.PrintMore
attribute [local go_sem] max2_int min2_int max_two min_two max_three min_three max_four min_four   -- for this text's walks alone
set_option linter.unusedVariables false
set_option linter.unusedSimpArgs false

attribute [local go_sem high] eqA37
/-! ### corbellaw13_speaks: function 15 -/
def corbellaw13_speaks.f (k : Nat)  : Option (Bool) := (plan_Write.f k 3 5 4 1 1 0 0 3).bind fun bt149 => (if bt149.2 = 0 then (if (bt149.1.length : Int) = 5 then (if 2 < (bt149.1.length : Int) then (if (((rd_T37 bt149.1 2).f0) == 2 && (((rd_T37 bt149.1 2).f1) == 0 && (((rd_T37 bt149.1 2).f2) == 0 && (((rd_T37 bt149.1 2).f3) == 0 && (((rd_T37 bt149.1 2).f4) == 0))))) = true then (if 4 < (bt149.1.length : Int) then (some (((rd_T37 bt149.1 4).f0) == 3 && (((rd_T37 bt149.1 4).f1) == 1 && (((rd_T37 bt149.1 4).f2) == 1 && (((rd_T37 bt149.1 4).f3) == 0 && (((rd_T37 bt149.1 4).f4) == 1)))))) else (none)) else (some false)) else (none)) else (some false)) else (some false))
theorem corbellaw13_speaks.mono : ∀ k, LeO (corbellaw13_speaks.f k ) (corbellaw13_speaks.f (k + 1) ) := by
  intro  k
  unfold corbellaw13_speaks.f
  repeat' first
      | (with_reducible exact plan_Write.mono _ _ _ _ _ _ _ _ _)
      | (with_reducible exact LeO.refl _)
      | (with_reducible exact LeO.none _)
      | (with_reducible refine LeO.ite ?_ ?_)
      | (with_reducible refine LeO.bind ?_ (fun _ => ?_))
      | exact plan_Write.mono _ _ _ _ _ _ _ _ _
      | exact LeO.none _
      | refine LeO.ite ?_ ?_
      | refine LeO.bind ?_ (fun _ => ?_)
set_option maxHeartbeats 8000000 in
set_option maxRecDepth 100000 in
theorem corbellaw13_speaks.calls (k : Nat)  (r : Bool) (w : World) (h : corbellaw13_speaks.f k  = some r) :
    Calls Try.prog 15 #[] w fun e w' => e = .returned (.bool r) ∧ Below w.heap.size w w' := by
  have hu30 := Try.underlying30
  have hu37 := Try.underlying37
  have HB := Aside0.mk (Below.refl w.heap.size w)
  have H : ((plan_Write.f k 3 5 4 1 1 0 0 3).bind fun bt149 => (if bt149.2 = 0 then (if (bt149.1.length : Int) = 5 then (if 2 < (bt149.1.length : Int) then (if (((rd_T37 bt149.1 2).f0) == 2 && (((rd_T37 bt149.1 2).f1) == 0 && (((rd_T37 bt149.1 2).f2) == 0 && (((rd_T37 bt149.1 2).f3) == 0 && (((rd_T37 bt149.1 2).f4) == 0))))) = true then (if 4 < (bt149.1.length : Int) then (some (((rd_T37 bt149.1 4).f0) == 3 && (((rd_T37 bt149.1 4).f1) == 1 && (((rd_T37 bt149.1 4).f2) == 1 && (((rd_T37 bt149.1 4).f3) == 0 && (((rd_T37 bt149.1 4).f4) == 1)))))) else (none)) else (some false)) else (none)) else (some false)) else (some false))) = some r := h
  clear h
  replace H := Option.bind_eq_some_iff.mp H
  obtain ⟨⟨t149, t152⟩, A10, H⟩ := H
  replace H : (if t152 = 0 then (if (t149.length : Int) = 5 then (if 2 < (t149.length : Int) then (if (((rd_T37 t149 2).f0) == 2 && (((rd_T37 t149 2).f1) == 0 && (((rd_T37 t149 2).f2) == 0 && (((rd_T37 t149 2).f3) == 0 && (((rd_T37 t149 2).f4) == 0))))) = true then (if 4 < (t149.length : Int) then (some (((rd_T37 t149 4).f0) == 3 && (((rd_T37 t149 4).f1) == 1 && (((rd_T37 t149 4).f2) == 1 && (((rd_T37 t149 4).f3) == 0 && (((rd_T37 t149 4).f4) == 1)))))) else (none)) else (some false)) else (none)) else (some false)) else (some false)) = some r := H
  have A1 := Aside0.mk A10
  clear A10
  by_cases c2 : t152 = 0
  · rw [if_pos c2] at H
    have c2b0 : (t152 == 0) = true := beq_iff_eq.mpr c2
    have c2b1 : (t152 != 0) = false := bne_eq_false_iff_eq.mpr c2
    clear c2
    by_cases c3 : (t149.length : Int) = 5
    · rw [if_pos c3] at H
      have c3b0 : ((t149.length : Int) == 5) = true := beq_iff_eq.mpr c3
      have c3b1 : ((t149.length : Int) != 5) = false := bne_eq_false_iff_eq.mpr c3
      clear c3
      by_cases c4 : 2 < (t149.length : Int)
      · rw [if_pos c4] at H
        have c4b0 : decide (2 < (t149.length : Int)) = true := decide_eq_true c4
        have c4b1 : decide (2 < t149.length) = true := decide_eq_true (by omega)
        clear c4
        by_cases c5 : (((rd_T37 t149 2).f0) == 2 && (((rd_T37 t149 2).f1) == 0 && (((rd_T37 t149 2).f2) == 0 && (((rd_T37 t149 2).f3) == 0 && (((rd_T37 t149 2).f4) == 0))))) = true
        · rw [if_pos c5] at H
          have c5b0 : (((rd_T37 t149 2).f0) == 2 && (((rd_T37 t149 2).f1) == 0 && (((rd_T37 t149 2).f2) == 0 && (((rd_T37 t149 2).f3) == 0 && (((rd_T37 t149 2).f4) == 0))))) = true := c5
          (try (have c5b1 : decide (((rd_T37 t149 2).f0) = 2 && (((rd_T37 t149 2).f1) == 0 && (((rd_T37 t149 2).f2) == 0 && (((rd_T37 t149 2).f3) == 0 && (((rd_T37 t149 2).f4) == 0))))) = true := by simpa using c5))
          (try (have c5b2 : (((rd_T37 t149 2).f0) == 2 && (((rd_T37 t149 2).f1) == 0 && (((rd_T37 t149 2).f2) == 0 && (((rd_T37 t149 2).f3) == 0 && (((rd_T37 t149 2).f4) == 0))))) = true := by simpa using c5))
          clear c5
          by_cases c6 : 4 < (t149.length : Int)
          · rw [if_pos c6] at H
            have c6b0 : decide (4 < (t149.length : Int)) = true := decide_eq_true c6
            have c6b1 : decide (4 < t149.length) = true := decide_eq_true (by omega)
            clear c6
            obtain rfl := Option.some.inj H
            go_enter Try.func15, Try.ntmps15
            go_wp2_with (first | ((with_reducible refine gate_callee (f := 16) rfl ?_); refine goesL_ (some 5) rfl rfl Try.func16 (by kernel_rfl) rfl #[.agg #[.int .i64 3, .int .i64 5, .int .i64 4, .int .i64 1, .int .i64 1], .int .i64 0, .int .i64 0, .int .i64 3] rfl (by (try simp only [List.map_toArray, List.map_cons, List.map_nil]); first | done | rfl | (simp only [List.length_drop, List.length_take]; rfl)) ?_; (with_reducible refine (plan_Write.calls k 3 5 4 1 1 0 0 3 t149 t152 _ A1.out).mono ?_); rintro e w7 ⟨v150, rfl, ho0, hb⟩; refine ⟨_, rfl, ?_⟩; have n0_ := Aside0.mk (Kd.R_lower ho0 (below_size (by repeat (first | (with_reducible first | exact HB.out | apply below_alloc | apply pw_below_drewN | apply below_drew1) | exact HB.out)))); have n1_ := Aside0.mk (below_step (by repeat (first | (with_reducible first | exact HB.out | apply below_alloc | apply pw_below_drewN | apply below_drew1) | exact HB.out)) hb); clear HB; have HO151 := n0_; have HB := n1_; clear n0_ n1_; (try clear hb); (try clear hb2); (try clear hk); (try clear hi); (try clear ho0); obtain ⟨Ao8, co8, eo8⟩ := Kd.R_slice HO151.out; subst eo8; have p153 : 0 ≤ (2 : Int) := (by omega); have q153 : 2 < (t149.length : Int) := of_decide_eq_true (by first | (with_reducible assumption) | assumption); obtain ⟨ad153, e153, hx153_0, hx153_1, hx153_2, hx153_3, hx153_4⟩ := at_T37 (Kd.R_reads' HO151.out).2.2 2 p153 q153; cases e153; (try simp only [show (2 : Int).toNat = 2 from rfl, Nat.reduceMul, Nat.reduceEqDiff, Go.Addr.add, ↓reduceIte] at hx153_0); (try simp only [show (2 : Int).toNat = 2 from rfl, Nat.reduceMul, Nat.reduceEqDiff, Go.Addr.add, ↓reduceIte] at hx153_1); (try simp only [show (2 : Int).toNat = 2 from rfl, Nat.reduceMul, Nat.reduceEqDiff, Go.Addr.add, ↓reduceIte] at hx153_2); (try simp only [show (2 : Int).toNat = 2 from rfl, Nat.reduceMul, Nat.reduceEqDiff, Go.Addr.add, ↓reduceIte] at hx153_3); (try simp only [show (2 : Int).toNat = 2 from rfl, Nat.reduceMul, Nat.reduceEqDiff, Go.Addr.add, ↓reduceIte] at hx153_4); have qi153 : (2 < t149.length) = True := eq_true (by omega); (try rw [show ((2 : Int)).toNat = 2 from rfl] at hx153_0); (try rw [show 2 * 5 = 10 from rfl] at hx153_0); (try rw [show ((2 : Int)).toNat = 2 from rfl] at hx153_1); (try rw [show 2 * 5 = 10 from rfl] at hx153_1); (try rw [show ((2 : Int)).toNat = 2 from rfl] at hx153_2); (try rw [show 2 * 5 = 10 from rfl] at hx153_2); (try rw [show ((2 : Int)).toNat = 2 from rfl] at hx153_3); (try rw [show 2 * 5 = 10 from rfl] at hx153_3); (try rw [show ((2 : Int)).toNat = 2 from rfl] at hx153_4); (try rw [show 2 * 5 = 10 from rfl] at hx153_4); replace p153 := eq_true p153; replace q153 := eq_true q153; have p154 : 0 ≤ (4 : Int) := (by omega); have q154 : 4 < (t149.length : Int) := of_decide_eq_true (by first | (with_reducible assumption) | assumption); obtain ⟨ad154, e154, hx154_0, hx154_1, hx154_2, hx154_3, hx154_4⟩ := at_T37 (Kd.R_reads' HO151.out).2.2 4 p154 q154; obtain rfl : ad153 = ad154 := (by injection e154); (try simp only [show (4 : Int).toNat = 4 from rfl, Nat.reduceMul, Nat.reduceEqDiff, Go.Addr.add, ↓reduceIte] at hx154_0); (try simp only [show (4 : Int).toNat = 4 from rfl, Nat.reduceMul, Nat.reduceEqDiff, Go.Addr.add, ↓reduceIte] at hx154_1); (try simp only [show (4 : Int).toNat = 4 from rfl, Nat.reduceMul, Nat.reduceEqDiff, Go.Addr.add, ↓reduceIte] at hx154_2); (try simp only [show (4 : Int).toNat = 4 from rfl, Nat.reduceMul, Nat.reduceEqDiff, Go.Addr.add, ↓reduceIte] at hx154_3); (try simp only [show (4 : Int).toNat = 4 from rfl, Nat.reduceMul, Nat.reduceEqDiff, Go.Addr.add, ↓reduceIte] at hx154_4); have qi154 : (4 < t149.length) = True := eq_true (by omega); (try rw [show ((4 : Int)).toNat = 4 from rfl] at hx154_0); (try rw [show 4 * 5 = 20 from rfl] at hx154_0); (try rw [show ((4 : Int)).toNat = 4 from rfl] at hx154_1); (try rw [show 4 * 5 = 20 from rfl] at hx154_1); (try rw [show ((4 : Int)).toNat = 4 from rfl] at hx154_2); (try rw [show 4 * 5 = 20 from rfl] at hx154_2); (try rw [show ((4 : Int)).toNat = 4 from rfl] at hx154_3); (try rw [show 4 * 5 = 20 from rfl] at hx154_3); (try rw [show ((4 : Int)).toNat = 4 from rfl] at hx154_4); (try rw [show 4 * 5 = 20 from rfl] at hx154_4); replace p154 := eq_true p154; replace q154 := eq_true q154))
            all_goals go_ret
            all_goals exact ⟨by first | rfl | (simp [errW_none, errW_some] <;> rfl) | (simp [*, errW_none, errW_some] <;> rfl), by repeat (first | (with_reducible first | exact HB.out | apply below_alloc | apply pw_below_drewN | apply below_drew1) | exact HB.out)⟩
          · rw [if_neg c6] at H
            exact absurd H (by simp)
        · rw [if_neg c5] at H
          have c5b0 : (((rd_T37 t149 2).f0) == 2 && (((rd_T37 t149 2).f1) == 0 && (((rd_T37 t149 2).f2) == 0 && (((rd_T37 t149 2).f3) == 0 && (((rd_T37 t149 2).f4) == 0))))) = false := by simpa using c5
          (try (have c5b1 : decide (((rd_T37 t149 2).f0) = 2 && (((rd_T37 t149 2).f1) == 0 && (((rd_T37 t149 2).f2) == 0 && (((rd_T37 t149 2).f3) == 0 && (((rd_T37 t149 2).f4) == 0))))) = false := by simpa using c5))
          (try (have c5b2 : (((rd_T37 t149 2).f0) == 2 && (((rd_T37 t149 2).f1) == 0 && (((rd_T37 t149 2).f2) == 0 && (((rd_T37 t149 2).f3) == 0 && (((rd_T37 t149 2).f4) == 0))))) = false := by simpa using c5))
          (try (have c5b3 : ¬ (((rd_T37 t149 2).f0) = 2 && (((rd_T37 t149 2).f1) == 0 && (((rd_T37 t149 2).f2) == 0 && (((rd_T37 t149 2).f3) == 0 && (((rd_T37 t149 2).f4) == 0))))) := by simpa using c5))
          clear c5
          obtain rfl := Option.some.inj H
          go_enter Try.func15, Try.ntmps15
          go_wp2_with (first | ((with_reducible refine gate_callee (f := 16) rfl ?_); refine goesL_ (some 5) rfl rfl Try.func16 (by kernel_rfl) rfl #[.agg #[.int .i64 3, .int .i64 5, .int .i64 4, .int .i64 1, .int .i64 1], .int .i64 0, .int .i64 0, .int .i64 3] rfl (by (try simp only [List.map_toArray, List.map_cons, List.map_nil]); first | done | rfl | (simp only [List.length_drop, List.length_take]; rfl)) ?_; (with_reducible refine (plan_Write.calls k 3 5 4 1 1 0 0 3 t149 t152 _ A1.out).mono ?_); rintro e w9 ⟨v150, rfl, ho0, hb⟩; refine ⟨_, rfl, ?_⟩; have n0_ := Aside0.mk (Kd.R_lower ho0 (below_size (by repeat (first | (with_reducible first | exact HB.out | apply below_alloc | apply pw_below_drewN | apply below_drew1) | exact HB.out)))); have n1_ := Aside0.mk (below_step (by repeat (first | (with_reducible first | exact HB.out | apply below_alloc | apply pw_below_drewN | apply below_drew1) | exact HB.out)) hb); clear HB; have HO151 := n0_; have HB := n1_; clear n0_ n1_; (try clear hb); (try clear hb2); (try clear hk); (try clear hi); (try clear ho0); obtain ⟨Ao10, co10, eo10⟩ := Kd.R_slice HO151.out; subst eo10; have p153 : 0 ≤ (2 : Int) := (by omega); have q153 : 2 < (t149.length : Int) := of_decide_eq_true (by first | (with_reducible assumption) | assumption); obtain ⟨ad153, e153, hx153_0, hx153_1, hx153_2, hx153_3, hx153_4⟩ := at_T37 (Kd.R_reads' HO151.out).2.2 2 p153 q153; cases e153; (try simp only [show (2 : Int).toNat = 2 from rfl, Nat.reduceMul, Nat.reduceEqDiff, Go.Addr.add, ↓reduceIte] at hx153_0); (try simp only [show (2 : Int).toNat = 2 from rfl, Nat.reduceMul, Nat.reduceEqDiff, Go.Addr.add, ↓reduceIte] at hx153_1); (try simp only [show (2 : Int).toNat = 2 from rfl, Nat.reduceMul, Nat.reduceEqDiff, Go.Addr.add, ↓reduceIte] at hx153_2); (try simp only [show (2 : Int).toNat = 2 from rfl, Nat.reduceMul, Nat.reduceEqDiff, Go.Addr.add, ↓reduceIte] at hx153_3); (try simp only [show (2 : Int).toNat = 2 from rfl, Nat.reduceMul, Nat.reduceEqDiff, Go.Addr.add, ↓reduceIte] at hx153_4); have qi153 : (2 < t149.length) = True := eq_true (by omega); (try rw [show ((2 : Int)).toNat = 2 from rfl] at hx153_0); (try rw [show 2 * 5 = 10 from rfl] at hx153_0); (try rw [show ((2 : Int)).toNat = 2 from rfl] at hx153_1); (try rw [show 2 * 5 = 10 from rfl] at hx153_1); (try rw [show ((2 : Int)).toNat = 2 from rfl] at hx153_2); (try rw [show 2 * 5 = 10 from rfl] at hx153_2); (try rw [show ((2 : Int)).toNat = 2 from rfl] at hx153_3); (try rw [show 2 * 5 = 10 from rfl] at hx153_3); (try rw [show ((2 : Int)).toNat = 2 from rfl] at hx153_4); (try rw [show 2 * 5 = 10 from rfl] at hx153_4); replace p153 := eq_true p153; replace q153 := eq_true q153))
          all_goals go_ret
          all_goals exact ⟨by first | rfl | (simp [errW_none, errW_some] <;> rfl) | (simp [*, errW_none, errW_some] <;> rfl), by repeat (first | (with_reducible first | exact HB.out | apply below_alloc | apply pw_below_drewN | apply below_drew1) | exact HB.out)⟩
      · rw [if_neg c4] at H
        exact absurd H (by simp)
    · rw [if_neg c3] at H
      have c3b0 : ((t149.length : Int) == 5) = false := beq_eq_false_iff_ne.mpr c3
      have c3b1 : ((t149.length : Int) != 5) = true := bne_iff_ne.mpr c3
      obtain rfl := Option.some.inj H
      go_enter Try.func15, Try.ntmps15
      go_wp2_with (first | ((with_reducible refine gate_callee (f := 16) rfl ?_); refine goesL_ (some 5) rfl rfl Try.func16 (by kernel_rfl) rfl #[.agg #[.int .i64 3, .int .i64 5, .int .i64 4, .int .i64 1, .int .i64 1], .int .i64 0, .int .i64 0, .int .i64 3] rfl (by (try simp only [List.map_toArray, List.map_cons, List.map_nil]); first | done | rfl | (simp only [List.length_drop, List.length_take]; rfl)) ?_; (with_reducible refine (plan_Write.calls k 3 5 4 1 1 0 0 3 t149 t152 _ A1.out).mono ?_); rintro e w11 ⟨v150, rfl, ho0, hb⟩; refine ⟨_, rfl, ?_⟩; have n0_ := Aside0.mk (Kd.R_lower ho0 (below_size (by repeat (first | (with_reducible first | exact HB.out | apply below_alloc | apply pw_below_drewN | apply below_drew1) | exact HB.out)))); have n1_ := Aside0.mk (below_step (by repeat (first | (with_reducible first | exact HB.out | apply below_alloc | apply pw_below_drewN | apply below_drew1) | exact HB.out)) hb); clear HB; have HO151 := n0_; have HB := n1_; clear n0_ n1_; (try clear hb); (try clear hb2); (try clear hk); (try clear hi); (try clear ho0); obtain ⟨Ao12, co12, eo12⟩ := Kd.R_slice HO151.out; subst eo12))
      all_goals go_ret
      all_goals exact ⟨by first | rfl | (simp [errW_none, errW_some] <;> rfl) | (simp [*, errW_none, errW_some] <;> rfl), by repeat (first | (with_reducible first | exact HB.out | apply below_alloc | apply pw_below_drewN | apply below_drew1) | exact HB.out)⟩
  · rw [if_neg c2] at H
    have c2b0 : (t152 == 0) = false := beq_eq_false_iff_ne.mpr c2
    have c2b1 : (t152 != 0) = true := bne_iff_ne.mpr c2
    obtain rfl := Option.some.inj H
    go_enter Try.func15, Try.ntmps15
    go_wp2_with (first | ((with_reducible refine gate_callee (f := 16) rfl ?_); refine goesL_ (some 5) rfl rfl Try.func16 (by kernel_rfl) rfl #[.agg #[.int .i64 3, .int .i64 5, .int .i64 4, .int .i64 1, .int .i64 1], .int .i64 0, .int .i64 0, .int .i64 3] rfl (by (try simp only [List.map_toArray, List.map_cons, List.map_nil]); first | done | rfl | (simp only [List.length_drop, List.length_take]; rfl)) ?_; (with_reducible refine (plan_Write.calls k 3 5 4 1 1 0 0 3 t149 t152 _ A1.out).mono ?_); rintro e w13 ⟨v150, rfl, ho0, hb⟩; refine ⟨_, rfl, ?_⟩; have n0_ := Aside0.mk (Kd.R_lower ho0 (below_size (by repeat (first | (with_reducible first | exact HB.out | apply below_alloc | apply pw_below_drewN | apply below_drew1) | exact HB.out)))); have n1_ := Aside0.mk (below_step (by repeat (first | (with_reducible first | exact HB.out | apply below_alloc | apply pw_below_drewN | apply below_drew1) | exact HB.out)) hb); clear HB; have HO151 := n0_; have HB := n1_; clear n0_ n1_; (try clear hb); (try clear hb2); (try clear hk); (try clear hi); (try clear ho0)))
    all_goals go_ret
    all_goals exact ⟨by first | rfl | (simp [errW_none, errW_some] <;> rfl) | (simp [*, errW_none, errW_some] <;> rfl), by repeat (first | (with_reducible first | exact HB.out | apply below_alloc | apply pw_below_drewN | apply below_drew1) | exact HB.out)⟩

/-! ### corbellaw13_withoutNotes: function 18 -/
def corbellaw13_withoutNotes.l0 : Nat → List (S37) → List (S37) → Int → Option ((List (S37)))
  | 0, _, _, _ => none
  | k + 1, x0, x3, x4 => if x4 < (x0.length : Int) then (if 0 ≤ x4 then (if ((rd_T37 x0 x4).f0) = 3 then (corbellaw13_withoutNotes.l0 k x0 x3 (wrap64 (x4 + 1))) else (if x3.length < 3518437208883 then (corbellaw13_withoutNotes.l0 k x0 (x3 ++ [(⟨(rd_T37 x0 x4).f0, (rd_T37 x0 x4).f1, (rd_T37 x0 x4).f2, (rd_T37 x0 x4).f3, (rd_T37 x0 x4).f4⟩ : S37)]) (wrap64 (x4 + 1))) else (none))) else (none)) else (some x3)
def corbellaw13_withoutNotes.f (k : Nat) (l0 : List (S37)) : Option ((List (S37))) := corbellaw13_withoutNotes.l0 k l0 ([] : List (S37)) 0
theorem corbellaw13_withoutNotes.mono_l : ∀ k, (∀ y0 y1 y2, LeO (corbellaw13_withoutNotes.l0 k y0 y1 y2) (corbellaw13_withoutNotes.l0 (k + 1) y0 y1 y2))
  | 0 => fun _ _ _ r h => by simp [corbellaw13_withoutNotes.l0] at h
  | k + 1 => by
    have ih0 := corbellaw13_withoutNotes.mono_l k
    · intro y0 y1 y2
      unfold corbellaw13_withoutNotes.l0
      repeat' first
      | (with_reducible exact ih0 _ _ _)
      | (with_reducible exact LeO.refl _)
      | (with_reducible exact LeO.none _)
      | (with_reducible refine LeO.ite ?_ ?_)
      | (with_reducible refine LeO.bind ?_ (fun _ => ?_))
      | exact ih0 _ _ _
      | exact LeO.none _
      | refine LeO.ite ?_ ?_
      | refine LeO.bind ?_ (fun _ => ?_)
theorem corbellaw13_withoutNotes.mono : ∀ a0 k, LeO (corbellaw13_withoutNotes.f k a0) (corbellaw13_withoutNotes.f (k + 1) a0) := by
  intro a0 k
  have ih0 := corbellaw13_withoutNotes.mono_l k
  unfold corbellaw13_withoutNotes.f
  repeat' first
      | (with_reducible exact ih0 _ _ _)
      | (with_reducible exact LeO.refl _)
      | (with_reducible exact LeO.none _)
      | (with_reducible refine LeO.ite ?_ ?_)
      | (with_reducible refine LeO.bind ?_ (fun _ => ?_))
      | exact ih0 _ _ _
      | exact LeO.none _
      | refine LeO.ite ?_ ?_
      | refine LeO.bind ?_ (fun _ => ?_)
set_option maxHeartbeats 8000000 in
set_option maxRecDepth 100000 in
theorem corbellaw13_withoutNotes.calls (k : Nat) (A0 : Option Addr) (c0 : Nat) (l0 : List (S37)) (r : List (S37)) (w : World) (hr0 : Kd.C k37 w A0 l0.length l0) (hc0 : l0.length ≤ c0) (h : corbellaw13_withoutNotes.f k l0 = some r) :
    Calls Try.prog 18 #[.slice A0 l0.length c0] w fun e w' => ∃ v0_ : Value, e = .returned (v0_) ∧ Kd.R k37 37 w' w.heap.size (fun _ => True) v0_ r ∧ Below w.heap.size w w' := by
  have hu37 := Try.underlying37
  have HR0 := Aside0.mk hr0
  have HC0 := Aside0.mk hc0
  clear hr0 hc0
  have HB := Aside0.mk (Below.refl w.heap.size w)
  have H : (corbellaw13_withoutNotes.l0 k l0 ([] : List (S37)) 0) = some r := h
  clear h
  have H' := Aside0.mk H
  clear H
  go_enter Try.func18, Try.ntmps18
  go_wp2
  go_loopg [3, 4] k (fun kq v3 v4 w' => ∃ (x3_1 : List (S37)) (x4_1 : Int), v4 = .int .i64 x4_1 ∧ Aside0 (corbellaw13_withoutNotes.l0 kq l0 x3_1 x4_1 = some r) ∧ Aside0 (kq ≤ k) ∧ Aside0 (Kd.R k37 37 w' w.heap.size (fun _ => True) v3 x3_1) ∧ Aside0 (Below w.heap.size w w'))
  case atStart => exact ⟨(([] : List (S37))), (0), (by first | rfl | (simp; done) | (simp [*]; done)), H', ⟨Nat.le_refl _⟩, ⟨by first | exact Kd.R_nil _ _ _ _ _ | exact Kd.N_nil _ _ _ _ _ | exact Kd.V_nil _ _ _ _ _ | exact Kd.Q_nil _ _ _ _ _ | exact Kd.S_nil _ _ _ _ _⟩, ⟨by repeat (first | (with_reducible first | exact HB.out | apply below_alloc | apply pw_below_drewN | apply below_drew1) | exact HB.out)⟩⟩
  case round =>
    clear H'
    try clear c1
    obtain ⟨x3_1, x4_1, rfl, HA, HK1, HO_3, HB⟩ := hrel
    cases gk with
    | zero => exact absurd HA.out (by simp [corbellaw13_withoutNotes.l0])
    | succ k1 =>
      have H := HA.out
      clear HA
      simp only [corbellaw13_withoutNotes.l0] at H
      by_cases c2 : x4_1 < (l0.length : Int)
      · rw [if_pos c2] at H
        have c2b0 : decide (x4_1 < (l0.length : Int)) = true := decide_eq_true c2
        clear c2
        by_cases c3 : 0 ≤ x4_1
        · rw [if_pos c3] at H
          have c3b0 : decide (0 ≤ x4_1) = true := decide_eq_true c3
          clear c3
          by_cases c4 : ((rd_T37 l0 x4_1).f0) = 3
          · rw [if_pos c4] at H
            have c4b0 : (((rd_T37 l0 x4_1).f0) == 3) = true := beq_iff_eq.mpr c4
            have c4b1 : (((rd_T37 l0 x4_1).f0) != 3) = false := bne_eq_false_iff_eq.mpr c4
            clear c4
            have H' := Aside0.mk H
            clear H
            have p155 : 0 ≤ (x4_1 : Int) := of_decide_eq_true (by first | (with_reducible assumption) | assumption)
            have q155 : x4_1 < (l0.length : Int) := of_decide_eq_true (by first | (with_reducible assumption) | assumption)
            obtain ⟨ad155, e155, hx155_0, hx155_1, hx155_2, hx155_3, hx155_4⟩ := at_T37 HR0.out x4_1 p155 q155
            cases e155
            replace hx155_0 := (HB.out.cell (World.block_lt_of_cell? w _ hx155_0)).trans hx155_0
            replace hx155_1 := (HB.out.cell (World.block_lt_of_cell? w _ hx155_1)).trans hx155_1
            replace hx155_2 := (HB.out.cell (World.block_lt_of_cell? w _ hx155_2)).trans hx155_2
            replace hx155_3 := (HB.out.cell (World.block_lt_of_cell? w _ hx155_3)).trans hx155_3
            replace hx155_4 := (HB.out.cell (World.block_lt_of_cell? w _ hx155_4)).trans hx155_4
            replace p155 := eq_true p155
            replace q155 := eq_true q155
            go_wp2
            go_roundg k1
            case measure => have := HK1.out; omega
            case rel => exact ⟨(x3_1), (wrap64 (x4_1 + 1)), (by first | rfl | (simp; done) | (simp [*]; done)), H', ⟨by have := HK1.out; omega⟩, ⟨by (with_reducible repeat (first | apply Kd.R_alloc | apply Kd.R_drewN | apply Kd.R_drew)); exact HO_3.out⟩, ⟨by repeat (first | (with_reducible first | exact HB.out | apply below_alloc | apply pw_below_drewN | apply below_drew1) | exact HB.out)⟩⟩
          · rw [if_neg c4] at H
            have c4b0 : (((rd_T37 l0 x4_1).f0) == 3) = false := beq_eq_false_iff_ne.mpr c4
            have c4b1 : (((rd_T37 l0 x4_1).f0) != 3) = true := bne_iff_ne.mpr c4
            by_cases c5 : x3_1.length < 3518437208883
            · rw [if_pos c5] at H
              have LMc5 := Aside0.mk c5
              clear c5
              obtain ⟨y157, hy157⟩ : ∃ y_ : List (S37), y_ = (x3_1 ++ [(⟨(rd_T37 l0 x4_1).f0, (rd_T37 l0 x4_1).f1, (rd_T37 l0 x4_1).f2, (rd_T37 l0 x4_1).f3, (rd_T37 l0 x4_1).f4⟩ : S37)]) := ⟨_, rfl⟩
              replace H : (corbellaw13_withoutNotes.l0 k1 l0 y157 (wrap64 (x4_1 + 1))) = some r := by first | (rw [hy157]; with_reducible exact H) | (have H2_ := (Option.bind_some _ _).symm.trans H; rw [hy157]; with_reducible exact H2_) | (have H2_ := (Option.bind_some _ _).symm.trans H; with_reducible exact H2_) | with_reducible exact H | (rw [hy157]; exact H) | exact H
              have Ny157 := Aside0.mk hy157
              clear hy157
              have H' := Aside0.mk H
              clear H
              have p155 : 0 ≤ (x4_1 : Int) := of_decide_eq_true (by first | (with_reducible assumption) | assumption)
              have q155 : x4_1 < (l0.length : Int) := of_decide_eq_true (by first | (with_reducible assumption) | assumption)
              obtain ⟨ad155, e155, hx155_0, hx155_1, hx155_2, hx155_3, hx155_4⟩ := at_T37 HR0.out x4_1 p155 q155
              cases e155
              replace hx155_0 := (HB.out.cell (World.block_lt_of_cell? w _ hx155_0)).trans hx155_0
              replace hx155_1 := (HB.out.cell (World.block_lt_of_cell? w _ hx155_1)).trans hx155_1
              replace hx155_2 := (HB.out.cell (World.block_lt_of_cell? w _ hx155_2)).trans hx155_2
              replace hx155_3 := (HB.out.cell (World.block_lt_of_cell? w _ hx155_3)).trans hx155_3
              replace hx155_4 := (HB.out.cell (World.block_lt_of_cell? w _ hx155_4)).trans hx155_4
              replace p155 := eq_true p155
              replace q155 := eq_true q155
              have p156 : 0 ≤ (x4_1 : Int) := of_decide_eq_true (by first | (with_reducible assumption) | assumption)
              have q156 : x4_1 < (l0.length : Int) := of_decide_eq_true (by first | (with_reducible assumption) | assumption)
              obtain ⟨ad156, e156, hx156_0, hx156_1, hx156_2, hx156_3, hx156_4⟩ := at_T37 HR0.out x4_1 p156 q156
              obtain rfl : ad155 = ad156 := (by injection e156)
              replace hx156_0 := (HB.out.cell (World.block_lt_of_cell? w _ hx156_0)).trans hx156_0
              replace hx156_1 := (HB.out.cell (World.block_lt_of_cell? w _ hx156_1)).trans hx156_1
              replace hx156_2 := (HB.out.cell (World.block_lt_of_cell? w _ hx156_2)).trans hx156_2
              replace hx156_3 := (HB.out.cell (World.block_lt_of_cell? w _ hx156_3)).trans hx156_3
              replace hx156_4 := (HB.out.cell (World.block_lt_of_cell? w _ hx156_4)).trans hx156_4
              replace p156 := eq_true p156
              replace q156 := eq_true q156
              go_wp2_with (first | ((with_reducible refine gate_builtin (b := .append) (xs := #[.tmp 17, .tmp 22]) rfl ?_); at_builtin; refine Kd.R_append k37 (w0 := w) w.heap.size rfl (.tmp 17) (.tmp 22) 26 37 (.agg #[(.int .i64 0), (.int .i64 0), (.int .i64 0), (.int .i64 0), (.int .i64 0)]) 40 rfl Try.underlying26 info37 rfl (by decide) (by omega) u3 x3_1 (⟨(rd_T37 l0 x4_1).f0, (rd_T37 l0 x4_1).f1, (rd_T37 l0 x4_1).f2, (rd_T37 l0 x4_1).f3, (rd_T37 l0 x4_1).f4⟩ : S37) [.int .i64 ((rd_T37 l0 x4_1).f0), .int .i64 ((rd_T37 l0 x4_1).f1), .int .i64 ((rd_T37 l0 x4_1).f2), .int .i64 ((rd_T37 l0 x4_1).f3), .int .i64 ((rd_T37 l0 x4_1).f4)] (fun _ => True) (fun _ => False) rfl rfl ?aP (fun _ hk => hk.elim) ?aF ?aO ?aB ?aS ?aL ?_; (case aP => exact k37_mkM _ _ _ (⟨(rd_T37 l0 x4_1).f0, (rd_T37 l0 x4_1).f1, (rd_T37 l0 x4_1).f2, (rd_T37 l0 x4_1).f3, (rd_T37 l0 x4_1).f4⟩ : S37)); (case aB => exact (by repeat (first | (with_reducible first | exact HB.out | apply below_alloc | apply pw_below_drewN | apply below_drew1) | exact HB.out))); (case aF => exact (fun _ _ => trivial)); (case aO => exact (by (with_reducible repeat (first | apply Kd.R_alloc | apply Kd.R_drewN | apply Kd.R_drew)); exact HO_3.out)); (case aS => exact (below_size (by repeat (first | (with_reducible first | exact HB.out | apply below_alloc | apply pw_below_drewN | apply below_drew1) | exact HB.out)))); (case aL => have := LMc5.out; omega); intro v158 w6 ho hb hg hat; rw [← Ny157.out] at ho; have n0_ := Aside0.mk (hb); have n1_ := Aside0.mk (ho); clear HB; clear HO_3; have HB := n0_; have HO159 := n1_; clear n0_ n1_; clear ho hb hg hat))
              go_roundg k1
              case measure => have := HK1.out; omega
              case rel => exact ⟨(y157), (wrap64 (x4_1 + 1)), (by first | rfl | (simp; done) | (simp [*]; done)), H', ⟨by have := HK1.out; omega⟩, ⟨by (with_reducible repeat (first | apply Kd.R_alloc | apply Kd.R_drewN | apply Kd.R_drew)); exact HO159.out⟩, ⟨by repeat (first | (with_reducible first | exact HB.out | apply below_alloc | apply pw_below_drewN | apply below_drew1) | exact HB.out)⟩⟩
            · rw [if_neg c5] at H
              exact absurd H (by simp)
        · rw [if_neg c3] at H
          exact absurd H (by simp)
      · rw [if_neg c2] at H
        have c2b0 : decide (x4_1 < (l0.length : Int)) = false := decide_eq_false c2
        clear c2
        obtain rfl := Option.some.inj H
        go_wp2
        all_goals go_ret
        all_goals exact ⟨_, by first | rfl | (simp [errW_none, errW_some] <;> rfl) | (simp [*, errW_none, errW_some] <;> rfl), by (with_reducible repeat (first | apply Kd.R_alloc | apply Kd.R_drewN | apply Kd.R_drew)); exact HO_3.out, by repeat (first | (with_reducible first | exact HB.out | apply below_alloc | apply pw_below_drewN | apply below_drew1) | exact HB.out)⟩

end Go.Proofs.Ytcikcikcjimcjaa.PPlanParts
