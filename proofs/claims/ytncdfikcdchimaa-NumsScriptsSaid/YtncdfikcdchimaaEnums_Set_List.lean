/- nums.Set.List on plain data: a range over a function, walked by hand by the kit's laws; Next's answer is the evaluator's. -/
import Derived.RangeFuncBox
import Derived.RangeFuncLeaves
import Derived.Shelf.Abstract
import Derived.WalkKit
import Derived.OwnWalkIn
import Derived.TacticsInMore
import Derived.LoopNIn
import Derived.LoopIn
import Derived.Maps.AppendAt
import Derived.Test.YtncdfikcdchimaaEnums_Set_Next
import Derived.Test.YtncdfikcdchimaaEvOpen
set_option linter.unusedVariables false
set_option linter.unusedSimpArgs false
namespace Go.Proofs
open Go Go.RowKit Go.Shelf Go.Proofs.Ytncdfikcdchimaa.Ev
attribute [local go_sem] Oper.semAt_some
namespace Ytncdfikcdchimaa.Lst
/-- What Next says, as a call. -/
theorem next_calls (k : Nat) (a0 a1 a2 a3 n r : Int) (h : nums_Set_Next k a0 a1 a2 a3 n = some r) (w : World) :
    Calls Try.prog 14 #[.agg #[.int .u64 a0, .int .u64 a1, .int .u64 a2, .int .u64 a3], .int .i64 n] w fun e w' => e = .returned (.int .i64 r) ∧ Below w.heap.size w w' := by
  have hp := nums_Set_Next_ok k ((a0, (a1, (a2, a3))), n) r h NoO w #[.agg #[.int .u64 a0, .int .u64 a1, .int .u64 a2, .int .u64 a3], .int .i64 n] [.int .u64 a0, .int .u64 a1, .int .u64 a2, .int .u64 a3, .int .i64 n]
    (fun _ h => h.elim) (fun g x h => by rw [tab_gl0] at h; cases h)
    ⟨[.int .u64 a0, .int .u64 a1, .int .u64 a2, .int .u64 a3], [.int .i64 n], rfl, ⟨[_], _, rfl, rfl, [_], _, rfl, rfl, [_], _, rfl, rfl, rfl⟩, rfl⟩
    ⟨_, _, rfl, rfl, rfl, _, _, _, rfl, rfl, rfl, rfl⟩
  refine hp.mono ?_
  rintro e w' ⟨cs, rfl, hr, hb⟩
  refine ⟨?_, hb⟩
  have hl := hr.len
  obtain ⟨v, rfl⟩ : ∃ v, cs = [v] := by
    match cs, hl with
    | [v], _ => exact ⟨v, rfl⟩
  have hv := hr.cell 0 (.int .i64 r) v rfl rfl
  have := inv_int hv
  subst this
  rfl
/-- The numbers from one on, as Next tells them one by one. -/
def Chain (k : Nat) (a0 a1 a2 a3 : Int) : Int → List Int → Prop
  | n, [] => n < 0
  | n, x :: xs => n = x ∧ 0 ≤ n ∧ n < 256 ∧ ∃ m, nums_Set_Next k a0 a1 a2 a3 (n + 1) = some m ∧ Chain k a0 a1 a2 a3 m xs
/-- The box of the set. -/
def Box (a0 a1 a2 a3 : Int) (W : World) (B : Nat) : Prop := W.heap[B]? = some (.cells #[.int .u64 a0, .int .u64 a1, .int .u64 a2, .int .u64 a3] 29 (0, 0))
theorem Box.cells {a0 a1 a2 a3 : Int} {W : World} {B : Nat} (h : Box a0 a1 a2 a3 W B) : W.cell? ⟨B, 0, none⟩ = some (.int .u64 a0) ∧ W.cell? ⟨B, 1, none⟩ = some (.int .u64 a1) ∧ W.cell? ⟨B, 2, none⟩ = some (.int .u64 a2) ∧ W.cell? ⟨B, 3, none⟩ = some (.int .u64 a3) := by
  unfold Box at h
  refine ⟨?_, ?_, ?_, ?_⟩ <;> simp [World.cell?, h]
theorem Box.lt {a0 a1 a2 a3 : Int} {W : World} {B : Nat} (h : Box a0 a1 a2 a3 W B) : B < W.heap.size := (Array.getElem?_eq_some_iff.1 h).1
theorem grown_of_below {W W' : World} (h : Below W.heap.size W W') : W.grownBy W' none := ⟨h.os, h.tape, h.output, h.size, fun k hk _ => h.block k hk⟩
theorem below_of_grown {W W' : World} (h : W.grownBy W' none) : Below W.heap.size W W' := (Below.refl _ W).grown h (Nat.le_refl _) (fun k e => by cases e)
theorem Chain.unique {k : Nat} {a0 a1 a2 a3 : Int} : ∀ {n : Int} {xs ys : List Int}, Chain k a0 a1 a2 a3 n xs → Chain k a0 a1 a2 a3 n ys → xs = ys
  | _, [], [], _, _ => rfl
  | n, [], _ :: _, h, ⟨_, h0, _⟩ => absurd (show n < 0 from h) (by omega)
  | n, _ :: _, [], ⟨_, h0, _⟩, h => absurd (show n < 0 from h) (by omega)
  | n, x :: xs, y :: ys, ⟨e, _, _, m, hm, hr⟩, ⟨e', _, _, m', hm', hr'⟩ => by
    rw [hm] at hm'
    cases hm'
    rw [← e, ← e', Chain.unique hr hr']
open Classical in
/-- How many are still to come. -/
noncomputable def left (k : Nat) (a0 a1 a2 a3 : Int) (v : Value) : Nat :=
  if h : ∃ r : Int × List Int, v = .int .i64 r.1 ∧ Chain k a0 a1 a2 a3 r.1 r.2 then (Classical.choose h).2.length else 0
theorem left_eq {k : Nat} {a0 a1 a2 a3 n : Int} {xs : List Int} (h : Chain k a0 a1 a2 a3 n xs) : left k a0 a1 a2 a3 (.int .i64 n) = xs.length := by
  have hex : ∃ r : Int × List Int, Value.int .i64 n = .int .i64 r.1 ∧ Chain k a0 a1 a2 a3 r.1 r.2 := ⟨(n, xs), rfl, h⟩
  unfold left
  rw [dif_pos hex]
  obtain ⟨e, hl⟩ := Classical.choose_spec hex
  have e' : n = (Classical.choose hex).1 := by simpa using e
  rw [← e'] at hl
  rw [Chain.unique hl h]
set_option maxRecDepth 100000 in
set_option maxHeartbeats 2000000 in
theorem iter_in (k : Nat) (a0 a1 a2 a3 : Int) (n : Nat) (hn : 1 ≤ n) (l Bn : Nat) (n0 : Int) (xs : List Int) (h0n : nums_Set_Next k a0 a1 a2 a3 0 = some n0) (hch : Chain k a0 a1 a2 a3 n0 xs) (J Jx : List Int → World → Prop)
    (hY : ∀ pre x W, J pre W → pre.length < xs.length → YieldAt Fence.wide (n - 1) Try.prog l #[.int .i64 x] W fun e W' =>
      (e = .returned (.bool true) ∧ J (pre ++ [x]) W' ∧ W'.heap[Bn]? = W.heap[Bn]?) ∨ (e = .returned (.bool false) ∧ Jx (pre ++ [x]) W'))
    (W : World) (hJ : AbidesFrom W.heap.size J) (hB : Box a0 a1 a2 a3 W Bn) (h0 : J [] W) :
    CallsIn Fence.wide n Try.prog 29 #[.func (.yield l) #[] #[], .pointer (some ⟨Bn, 0, none⟩)] W fun e W' => (∃ v, e = .returned v) ∧
      ((∃ ys, ys = xs ∧ J ys W') ∨ (∃ pre, pre <+: xs ∧ Jx pre W')) := by
  obtain ⟨c0, c1, c2, c3⟩ := hB.cells
  refine callsIn_of_wp Try.func29 rfl trivial ?_ rfl
  simp only [Try.ntmps29, List.size_toArray, List.length_cons, List.length_nil, Nat.reduceAdd, Nat.reduceSub, Array.replicate_succ, Array.replicate_zero, List.push_toArray, List.append_toArray, List.nil_append, List.cons_append]
  gi_wp2_with (refine ⟨trivial, ?_⟩; gi_at_call 14; refine (callsIn_wide.2 (next_calls k a0 a1 a2 a3 0 n0 h0n _)).mono ?_; rintro e w1 ⟨rfl, hb1⟩)
  have hB1 : Box a0 a1 a2 a3 w1 Bn := (hb1.block Bn hB.lt).trans hB
  have hJ1 : J [] w1 := hJ [] W w1 none h0 (grown_of_below hb1) (fun r e => by cases e)
  gi_loopw [3] (fun p wr => ∃ (pre rest : List Int) (m : Int), p = .int .i64 m ∧ xs = pre ++ rest ∧ Chain k a0 a1 a2 a3 m rest ∧ Box a0 a1 a2 a3 wr Bn ∧ J pre wr)
    (fun p wr => left k a0 a1 a2 a3 p)
  case atStart =>
    exact ⟨[], xs, n0, rfl, rfl, hch, hB1, hJ1⟩
  case round =>
    obtain ⟨pre, rest, m, rfl, hx, hl, hBr, hJs⟩ := hrel
    clear c0 c1 c2 c3
    cases rest with
    | nil =>
      have hm : m < 0 := hl
      gi_wp2
      refine ⟨fun _ h => (by cases h), ?_⟩
      gi_wp2
      go_end0
      exact ⟨⟨_, rfl⟩, .inl ⟨pre, by simp [hx], hJs⟩⟩
    | cons x rest =>
      have hl' := hl
      obtain ⟨rfl, hm0, hm1, m', hm', hr⟩ := hl
      obtain ⟨fn, tmps, assign, body, hy, hR⟩ := hY pre m wr hJs (by rw [hx]; simp)
      gi_wp2
      refine hR.mono ?_
      have hw : wrap64 (m + 1) = m + 1 := by unfold wrap64; omega
      rintro e W3 (⟨rfl, hJ3, hk3⟩ | ⟨rfl, hJx3⟩)
      · have hB3 : Box a0 a1 a2 a3 W3 Bn := hk3.trans hBr
        obtain ⟨d0, d1, d2, d3⟩ := hB3.cells
        gi_wp2_with (refine ⟨trivial, ?_⟩; gi_at_call 14; refine (callsIn_wide.2 (next_calls k a0 a1 a2 a3 (m + 1) m' hm' _)).mono ?_; rintro e w4 ⟨rfl, hb4⟩)
        go_roundw
        case rel => exact ⟨pre ++ [m], rest, m', rfl, by simp [hx], hr, (hb4.block Bn hB3.lt).trans hB3, hJ _ W3 w4 none hJ3 (grown_of_below hb4) (fun r e => by cases e)⟩
        case measure => rw [left_eq hr, left_eq hl']; simp
      · gi_wp2
        go_end0
        exact ⟨⟨_, rfl⟩, .inr ⟨pre ++ [m], ⟨rest, by simp [hx]⟩, hJx3⟩⟩
set_option maxHeartbeats 1000000 in
theorem all_in (a0 a1 a2 a3 : Int) (n : Nat) (w : World) :
    CallsIn Fence.wide n Try.prog 28 #[.agg #[.int .u64 a0, .int .u64 a1, .int .u64 a2, .int .u64 a3]] w fun e w' => e = .returned (.func (.func 29) #[] #[.pointer (some ⟨w.heap.size, 0, none⟩)]) ∧ w' = w.alloc (.cells #[.int .u64 a0, .int .u64 a1, .int .u64 a2, .int .u64 a3] 29) := by
  refine callsIn_of_wp Try.func28 rfl trivial ?_ rfl
  simp only [Try.ntmps28, List.size_toArray, List.length_cons, List.length_nil, Nat.reduceAdd, Nat.reduceSub, Array.replicate_succ, Array.replicate_zero, List.push_toArray, List.append_toArray, List.nil_append, List.cons_append]
  gi_wp2
  go_ret
  exact ⟨rfl, rfl⟩
theorem iter_stops (k : Nat) (a0 a1 a2 a3 : Int) (n : Nat) (hn : 1 ≤ n) (Bn : Nat) (n0 : Int) (xs : List Int) (h0n : nums_Set_Next k a0 a1 a2 a3 0 = some n0) (hch : Chain k a0 a1 a2 a3 n0 xs) (w : World) (hB : Box a0 a1 a2 a3 w Bn) :
    SeqStopsK Fence.wide n Try.prog 29 #[.pointer (some ⟨Bn, 0, none⟩)] (fun x : Int => #[Value.int .i64 x]) (fun W W' => W'.heap[Bn]? = W.heap[Bn]?) (fun ys => ys = xs) (fun pre => pre <+: xs) xs.length w := fun l J Jx W hW hJ _ hY h0 =>
  iter_in k a0 a1 a2 a3 n hn l Bn n0 xs h0n hch J Jx hY W hJ ((hW.block Bn hB.lt).trans hB) h0
theorem zero_eq (a0 a1 a2 a3 : Int) (W : World) : (Op.equalIn 10000 27 (.agg #[.int .u64 a0, .int .u64 a1, .int .u64 a2, .int .u64 a3]) (.agg #[.int .u64 0, .int .u64 0, .int .u64 0, .int .u64 0])).run Try.prog W = .ok (decide (a0 = 0) && (decide (a1 = 0) && (decide (a2 = 0) && (decide (a3 = 0) && true)))) W :=
  eqV_sound (X := NoO) (ρ := []) (h := []) (w := W) tabOK 5 27 (.agg [.int .u64 a0, .int .u64 a1, .int .u64 a2, .int .u64 a3]) (.agg [.int .u64 0, .int .u64 0, .int .u64 0, .int .u64 0]) _ _ _
    (.agg (vs := #[.int .u64 a0, .int .u64 a1, .int .u64 a2, .int .u64 a3]) rfl (fun i c v hc hv => by
      match i, hc, hv with
      | 0, rfl, rfl => exact .int _ _
      | 1, rfl, rfl => exact .int _ _
      | 2, rfl, rfl => exact .int _ _
      | 3, rfl, rfl => exact .int _ _))
    (.agg (vs := #[.int .u64 0, .int .u64 0, .int .u64 0, .int .u64 0]) rfl (fun i c v hc hv => by
      match i, hc, hv with
      | 0, rfl, rfl => exact .int _ _
      | 1, rfl, rfl => exact .int _ _
      | 2, rfl, rfl => exact .int _ _
      | 3, rfl, rfl => exact .int _ _)) (by kernel_rfl) 10000 (by decide)
theorem box_own (a0 a1 a2 a3 : Int) (B : Nat) : Own (fun (_ : List Int) W => Box a0 a1 a2 a3 W B) := by
  rintro s X Y row h hg hrow
  refine (hg.block B (Box.lt h) (fun e' => ?_)).trans h
  obtain ⟨o, ho, hc⟩ := hrow B e'.symm
  rw [show X.heap[B]? = _ from h] at ho; cases ho; cases hc
theorem box_not_row {a0 a1 a2 a3 : Int} {W : World} {B : Nat} (h : Box a0 a1 a2 a3 W B) {base size k : Nat} {v : Value} {xs : List Value} (hr : W.ownsRow base 3 size v k xs) : some B ≠ v.ownBlock := by
  rcases hr.2 with ⟨rfl, _⟩ | ⟨g, cap, cur, rfl, _, hgb, _⟩
  · simp [Value.ownBlock]
  · intro e'
    obtain rfl : B = g := by simpa [Value.ownBlock] using e'
    have := (show W.heap[B]? = _ from h).symm.trans hgb
    simp at this
theorem info3 : (Try.prog.info? 3).map (fun i => (i.zero, i.size, i.bytes)) = some (some (.int .i64 0), 1, 8) := by kernel_rfl
set_option maxRecDepth 100000 in
set_option maxHeartbeats 2000000 in
theorem list_zero (w : World) :
    CallsIn Fence.wide 3 Try.prog 25 #[.agg #[.int .u64 0, .int .u64 0, .int .u64 0, .int .u64 0]] w fun e W' => e = .returned (.slice none 0 0) ∧ Below w.heap.size w W' := by
  refine callsIn_of_wp_marks Try.func25 rfl trivial ?_ rfl
  simp only [Try.ntmps25, List.size_toArray, List.length_cons, List.length_nil, Nat.reduceAdd, Nat.reduceSub, Array.replicate_succ, Array.replicate_zero, List.push_toArray, List.append_toArray, List.nil_append, List.cons_append]
  have heq : ∀ W : World, (Op.equalIn 10000 27 (.agg #[.int .u64 0, .int .u64 0, .int .u64 0, .int .u64 0]) (.agg #[.int .u64 0, .int .u64 0, .int .u64 0, .int .u64 0])).run Try.prog W = .ok true W := fun W => zero_eq 0 0 0 0 W
  gi_wp2
  have hb : Below w.heap.size w (w.alloc (.cells #[.int .u64 0, .int .u64 0, .int .u64 0, .int .u64 0] 29)) := (Below.refl _ w).alloc (Nat.le_refl _) _
  exact ⟨_, results_tmp rfl _ _ _, rfl, hb⟩
set_option maxRecDepth 100000 in
set_option maxHeartbeats 2000000 in
theorem list_in (k : Nat) (a0 a1 a2 a3 : Int) (n0 : Int) (xs : List Int) (hlen : xs.length ≤ 1000) (h0n : nums_Set_Next k a0 a1 a2 a3 0 = some n0) (hch : Chain k a0 a1 a2 a3 n0 xs) (hz : ¬ (a0 = 0 ∧ a1 = 0 ∧ a2 = 0 ∧ a3 = 0)) (w : World) :
    CallsIn Fence.wide 3 Try.prog 25 #[.agg #[.int .u64 a0, .int .u64 a1, .int .u64 a2, .int .u64 a3]] w fun e W' => ∃ v, e = .returned v ∧ W'.ownsRow w.heap.size 3 1 v xs.length (xs.map (Value.int .i64)) ∧ (v = .slice none 0 0 ↔ xs = []) ∧ Below w.heap.size w W' := by
  obtain ⟨i0, hi, hz0, hz1, hz2⟩ := info_parts info3
  refine callsIn_of_wp_marks Try.func25 rfl trivial ?_ rfl
  simp only [Try.ntmps25, List.size_toArray, List.length_cons, List.length_nil, Nat.reduceAdd, Nat.reduceSub, Array.replicate_succ, Array.replicate_zero, List.push_toArray, List.append_toArray, List.nil_append, List.cons_append]
  have hne : ∀ W : World, (Op.equalIn 10000 27 (.agg #[.int .u64 a0, .int .u64 a1, .int .u64 a2, .int .u64 a3]) (.agg #[.int .u64 0, .int .u64 0, .int .u64 0, .int .u64 0])).run Try.prog W = .ok false W := fun W => by
    rw [zero_eq]
    congr 1
    by_cases h0 : a0 = 0
    · by_cases h1 : a1 = 0
      · by_cases h2 : a2 = 0
        · have h3 : ¬ a3 = 0 := fun h3 => hz ⟨h0, h1, h2, h3⟩
          rw [decide_eq_false h3]; simp
        · rw [decide_eq_false h2]; simp
      · rw [decide_eq_false h1]; simp
    · rw [decide_eq_false h0]; simp
  gi_wp2_with (refine ⟨trivial, ?_⟩; gi_at_call 28; refine (all_in a0 a1 a2 a3 2 _).mono ?_; rintro e w' ⟨rfl, rfl⟩)
  have hml : xs.length ≤ maxLen := by unfold maxLen; omega
  have bO := Boxed.new (w.alloc (.cells #[.int .u64 a0, .int .u64 a1, .int .u64 a2, .int .u64 a3] 29)) 25 (.slice none 0 0)
  have bN := World.alloc_heap_new ((w.alloc (.cells #[.int .u64 a0, .int .u64 a1, .int .u64 a2, .int .u64 a3] 29)).alloc (.cells #[.slice none 0 0] 25)) (.cells #[.int .u64 a0, .int .u64 a1, .int .u64 a2, .int .u64 a3] 29)
  rw [World.size_alloc] at bO
  rw [World.size_alloc, World.size_alloc] at bN
  have hB0 : Below w.heap.size w (((w.alloc (.cells #[.int .u64 a0, .int .u64 a1, .int .u64 a2, .int .u64 a3] 29)).alloc (.cells #[.slice none 0 0] 25)).alloc (.cells #[.int .u64 a0, .int .u64 a1, .int .u64 a2, .int .u64 a3] 29)) := (((Below.refl _ w).alloc (Nat.le_refl _) _).alloc (by simp) _).alloc (by simp; omega) _
  refine wpIn_rangeFunc_ownG rfl (by omega) (gf := 29) (lb := #[.pointer (some ⟨w.heap.size + 1 + 1, 0, none⟩)]) rfl trivial (enters_of Try.func29 (by kernel_rfl) rfl)
    (iter_stops k a0 a1 a2 a3 (3 - 1) (by omega) (w.heap.size + 1 + 1) n0 xs h0n hch _ bN) (fun h1 h2 => h2.trans h1) (fun W l o o' hl _ _ _ => World.putObj_heap_other (by simp at hl; omega)) (Below.refl _ _) (fun _ => rfl)
    (fun pre W => (∃ v, Boxed W (w.heap.size + 1) 25 v ∧ W.ownsRow w.heap.size 3 1 v pre.length (pre.map (Value.int .i64)) ∧ (v = .slice none 0 0 ↔ pre = [])) ∧ Box a0 a1 a2 a3 W (w.heap.size + 1 + 1) ∧ Below w.heap.size w W)
    (fun _ _ _ => False)
    (OwnFrom.and (Own.from (holdsRow_own w.heap.size (w.heap.size + 1) 25 3 1 (fun pre => pre.length) (fun pre => pre.map (Value.int .i64)) (fun pre v => v = .slice none 0 0 ↔ pre = [])) _) (OwnFrom.and (Own.from (box_own a0 a1 a2 a3 (w.heap.size + 1 + 1)) _) (ownFrom_below (Nat.le_refl _) (by simp; omega))))
    (fun _ _ _ _ _ hs _ _ => hs)
    ⟨⟨_, bO.alloc _, World.ownsRow_nil _ _ _ _, by simp⟩, bN, hB0⟩
    (fun x => { tmps := #[.agg #[.int .u64 a0, .int .u64 a1, .int .u64 a2, .int .u64 a3], .pointer (some ⟨w.heap.size, 0, none⟩), .slice none 0 0, .pointer (some ⟨w.heap.size + 1, 0, none⟩), .int .i64 x, .pointer (some ⟨w.heap.size, 0, none⟩), .agg #[.int .u64 a0, .int .u64 a1, .int .u64 a2, .int .u64 a3], .agg #[.int .u64 0, .int .u64 0, .int .u64 0, .int .u64 0], .bool false, .agg #[.int .u64 a0, .int .u64 a1, .int .u64 a2, .int .u64 a3], .func (.func 29) #[] #[.pointer (some ⟨w.heap.size + 1 + 1, 0, none⟩)], .int .i64 x, undef, undef, undef, undef, undef], defers := [] }) ?assign ?body ?done ?stop
  case assign =>
    intro l x W K hK
    gi_wp2
    exact hK
  case body =>
    rintro l pre x W ⟨⟨v, hv, hrow, hnil⟩, hBx, hB⟩ hlt
    have hc := hv.cell
    gi_wp2_with (gi_at_builtin; refine wpListIn_append_own _ rfl _ _ 25 rfl w.heap.size 3 i0 (.int .i64 0) 1 8 Try.underlying25 hi hz0 hz1 hz2 rfl (by decide) _ _ _ rfl (hrow.alloc _) ⟨W.heap.size, 0, none⟩ 1 1 [.int .i64 x] rfl rfl (cell_one_new _ _ _) (by simp [Value.oneCell']) (by omega) (by omega) (by have := hB.size; simp; omega) ?_; intro v' w1 hown' hgrow _; obtain ⟨g', cap', rfl⟩ := ownsRow_succ hown'; obtain ⟨hv1, hv2, hr2, hk2, hb2⟩ := hv.appended (by decide) hrow hB.size (Nat.le_add_right _ _) hown' hgrow; have hc1 := hv1.cell; have hf1 := hv1.frozen)
    have hx1 : Box a0 a1 a2 a3 w1 (w.heap.size + 1 + 1) := (hgrow.block _ (by have := hBx.lt; simp; omega) (box_not_row hBx hrow)).trans ((Below.heap_alloc _ _ _ hBx.lt).trans hBx)
    have hx2 := (grownBy_setCell' w1 (w.heap.size + 1) (.slice (some ⟨g', 0, none⟩) (pre.length + 1) cap')).block (w.heap.size + 1 + 1) hx1.lt (by simp)
    exact ⟨hk2.from _, (hx2.trans hx1).trans hBx.symm, ⟨_, hv2, by simpa using hr2, by simp⟩, hx2.trans hx1, hB.trans hb2⟩
  case done =>
    rintro D ys W hD rfl ⟨⟨v, hv, hrow, hnil⟩, hBx, hB⟩ hK
    have hc := hv.cell
    gi_wp2
    refine ⟨by simp, .inl ⟨_, _, rfl, run_takeDeferred hK, ?_⟩⟩
    exact ⟨_, results_tmp rfl _ _ _, v, rfl, ownsRow_putObj hrow _ hK rfl, hnil, hB.trans (belowK_b (w := w) (Nat.le_refl _) W D _ _ (by simp at hD; omega) hK rfl rfl)⟩
  case stop =>
    rintro D c pre W _ _ h _
    exact h.elim
end Ytncdfikcdchimaa.Lst
namespace Ytncdfikcdchimaa.Ev
def nums_Set_List_walk (k : Nat) (a0 a1 a2 a3 : Int) : Nat → Int → Option (List Int)
  | 0 => fun _ => none
  | j + 1 => fun n => bif decide (n < (0 : Int)) then some [] else bif decide (n < (256 : Int)) then optb (nums_Set_Next k a0 a1 a2 a3 (n + 1)) fun m => optb (nums_Set_List_walk k a0 a1 a2 a3 j m) fun l => some (n :: l) else none
def nums_Set_List (k : Nat) (a0 a1 a2 a3 : Int) : Option (Bool × List Int) :=
  bif (decide (a0 = (0 : Int)) && (decide (a1 = (0 : Int)) && (decide (a2 = (0 : Int)) && decide (a3 = (0 : Int))))) then some (true, [])
  else optb (nums_Set_Next k a0 a1 a2 a3 (0 : Int)) fun n =>
    optb (nums_Set_List_walk k a0 a1 a2 a3 k n) fun l =>
      bif decide (l.length ≤ 1000) then some (l.isEmpty, l) else none
def nums_Set_List_p (k : Nat) : PF := { ps := [(true, 4)], rs := [(false, 1)], τ := (.pair (.int .u64) (.pair (.int .u64) (.pair (.int .u64) (.int .u64)))), σ := (.sl (.int .i64)), f := fun x => nums_Set_List k x.1 x.2.1 x.2.2.1 x.2.2.2, fr := [some 3] }
theorem walk_chain (k : Nat) (a0 a1 a2 a3 : Int) : ∀ (j : Nat) (n : Int) (l : List Int), nums_Set_List_walk k a0 a1 a2 a3 j n = some l → Lst.Chain k a0 a1 a2 a3 n l
  | 0, _, _, h => by cases h
  | j + 1, n, l, h => by
    have h' : (bif decide (n < (0 : Int)) then some [] else bif decide (n < (256 : Int)) then optb (nums_Set_Next k a0 a1 a2 a3 (n + 1)) fun m => optb (nums_Set_List_walk k a0 a1 a2 a3 j m) fun l => some (n :: l) else none) = some l := h
    by_cases h0 : n < 0
    · rw [decide_eq_true h0] at h'
      cases h'
      exact h0
    · rw [decide_eq_false h0, cond_false] at h'
      by_cases h1 : n < 256
      · rw [decide_eq_true h1, cond_true] at h'
        cases hm : nums_Set_Next k a0 a1 a2 a3 (n + 1) with
        | none => rw [hm] at h'; cases h'
        | some m =>
          rw [hm] at h'
          have h2 : optb (nums_Set_List_walk k a0 a1 a2 a3 j m) (fun l => some (n :: l)) = some l := h'
          cases hl : nums_Set_List_walk k a0 a1 a2 a3 j m with
          | none => rw [hl] at h2; cases h2
          | some r =>
            rw [hl] at h2
            cases h2
            exact ⟨rfl, by omega, h1, m, hm, walk_chain k a0 a1 a2 a3 j m r hl⟩
      · rw [decide_eq_false h1] at h'; cases h'
theorem nums_Set_List_ok (k : Nat) : PFOK Try.prog tab 25 (nums_Set_List_p k) := by
  intro x y hf O w vs cells hO hgl hrc hsh
  obtain ⟨a0, a1, a2, a3⟩ := x
  obtain ⟨nl, l⟩ := y
  obtain ⟨c1, r1, hcs, hr1, c2, r2, hcs2, hr2, c3, c4, hcs3, hr3, hr4⟩ : ∃ c1 r1, cells = c1 ++ r1 ∧ RC O w (.int .u64) a0 c1 ∧ ∃ c2 r2, r1 = c2 ++ r2 ∧ RC O w (.int .u64) a1 c2 ∧ ∃ c3 c4, r2 = c3 ++ c4 ∧ RC O w (.int .u64) a2 c3 ∧ RC O w (.int .u64) a3 c4 := hrc
  obtain rfl : c1 = [.int .u64 a0] := hr1
  obtain rfl : c2 = [.int .u64 a1] := hr2
  obtain rfl : c3 = [.int .u64 a2] := hr3
  obtain rfl : c4 = [.int .u64 a3] := hr4
  subst hcs3 hcs2
  have hcells : cells = [.int .u64 a0, .int .u64 a1, .int .u64 a2, .int .u64 a3] := hcs
  subst hcells
  obtain ⟨cs, vs', e1, e2, e3, e4, e5⟩ : ∃ cs vs', vs.toList = .agg cs :: vs' ∧ cs.size = 4 ∧ [Value.int .u64 a0, .int .u64 a1, .int .u64 a2, .int .u64 a3].take 4 = cs.toList ∧ ([Value.int .u64 a0, .int .u64 a1, .int .u64 a2, .int .u64 a3].drop 4 = [] ∧ vs' = []) := hsh
  subst e5
  obtain rfl : cs = #[.int .u64 a0, .int .u64 a1, .int .u64 a2, .int .u64 a3] := by apply Array.toList_inj.1; exact e3.symm
  obtain rfl : vs = #[.agg #[.int .u64 a0, .int .u64 a1, .int .u64 a2, .int .u64 a3]] := by apply Array.toList_inj.1; rw [e1]
  have hf' : nums_Set_List k a0 a1 a2 a3 = some (nl, l) := hf
  clear hf hgl
  obtain ⟨b0, hb0⟩ : ∃ b : Int, b = a0 := ⟨a0, rfl⟩
  obtain ⟨b1, hb1⟩ : ∃ b : Int, b = a1 := ⟨a1, rfl⟩
  obtain ⟨b2, hb2⟩ : ∃ b : Int, b = a2 := ⟨a2, rfl⟩
  obtain ⟨b3, hb3⟩ : ∃ b : Int, b = a3 := ⟨a3, rfl⟩
  subst hb0 hb1 hb2 hb3
  have fin : ∀ (v : Value) (W' : World), W'.ownsRow w.heap.size 3 1 v l.length (l.map (Value.int .i64)) → (v = .slice none 0 0 ↔ l = []) → nl = l.isEmpty → Below w.heap.size w W' →
      ∃ cs, Ending.returned v = .returned (oneOrTupV (unflatV (nums_Set_List_p k).rs cs)) ∧ ResR O w W' (nums_Set_List_p k).fr ((nums_Set_List_p k).σ.cells (nl, l)) cs ∧ Below w.heap.size w W' := by
    intro v W' hrow hv hnl hbel
    refine ⟨[v], rfl, ⟨rfl, fun j c u hc hu => ?_, fun i j e e' u u' q h1 h2 _ _ _ _ => ?_⟩, hbel⟩
    · cases j with
      | zero =>
        cases hc; cases hu
        refine ⟨.int .i64, nl, l, l.map (Value.int .i64), rfl, rowOf.mk (by decide) hrow, ?_, fun i y hy => ?_⟩
        · rw [hv, hnl]
          cases l with
          | nil => simp
          | cons => simp
        · show List.take 1 (List.drop (i * 1) (l.map (Value.int .i64))) = [.int .i64 y]
          rw [Nat.mul_one]
          have hi : i < l.length := (List.getElem?_eq_some_iff.1 hy).1
          rw [List.drop_eq_getElem_cons (by simpa using hi)]
          simp [(List.getElem?_eq_some_iff.1 hy).2]
      | succ j => cases hc
    · cases i with
      | zero => cases j with
        | zero => rfl
        | succ j => cases h2
      | succ i => cases h1
  unfold nums_Set_List at hf'
  by_cases hz : b0 = 0 ∧ b1 = 0 ∧ b2 = 0 ∧ b3 = 0
  · obtain ⟨z0, z1, z2, z3⟩ := hz
    rw [z0, z1, z2, z3] at hf' ⊢
    have hf2 : some (true, ([] : List Int)) = some (nl, l) := hf'
    cases hf2
    refine ((callsIn_wide (n := 3)).1 (Lst.list_zero w)).mono ?_
    rintro e W' ⟨rfl, hb⟩
    exact fin (.slice none 0 0) W' (World.ownsRow_nil _ _ _ _) (by simp) rfl hb
  · have hzb : (decide (b0 = (0 : Int)) && (decide (b1 = (0 : Int)) && (decide (b2 = (0 : Int)) && decide (b3 = (0 : Int))))) = false := by
      rw [Bool.eq_false_iff]
      intro h
      simp only [Bool.and_eq_true, decide_eq_true_eq] at h
      exact hz h
    rw [hzb, cond_false] at hf'
    cases hn : nums_Set_Next k b0 b1 b2 b3 0 with
    | none => rw [hn] at hf'; cases hf'
    | some n0 =>
      rw [hn] at hf'
      have h2 : optb (nums_Set_List_walk k b0 b1 b2 b3 k n0) (fun l => bif decide (l.length ≤ 1000) then some (l.isEmpty, l) else none) = some (nl, l) := hf'
      cases hw : nums_Set_List_walk k b0 b1 b2 b3 k n0 with
      | none => rw [hw] at h2; cases h2
      | some r =>
        rw [hw] at h2
        have h3 : (bif decide (r.length ≤ 1000) then some (r.isEmpty, r) else none) = some (nl, l) := h2
        by_cases hl : r.length ≤ 1000
        · rw [decide_eq_true hl, cond_true] at h3
          cases h3
          refine ((callsIn_wide (n := 3)).1 (Lst.list_in k b0 b1 b2 b3 n0 l hl hn (walk_chain k b0 b1 b2 b3 k n0 l hw) hz w)).mono ?_
          rintro e W' ⟨v, rfl, hrow, hv, hb⟩
          exact fin v W' hrow hv rfl hb
        · rw [decide_eq_false hl] at h3; cases h3
end Ytncdfikcdchimaa.Ev
end Go.Proofs
