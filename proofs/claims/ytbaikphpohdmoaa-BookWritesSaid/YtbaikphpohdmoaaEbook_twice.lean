/- book.twice on plain data: slices.Sorted(slices.Values(l)), walked by hand by the kit's laws; slices.Sort and slices.Compact by the shelf's contracts. -/
import Derived.RangeFuncBox
import Derived.RangeFuncLeaves
import Derived.Shelf.Abstract
import Derived.WalkKit
import Derived.OwnWalkIn
import Derived.TacticsInMore
import Derived.LoopNIn
import Derived.LoopIn
import Derived.Maps.AppendAt
import Derived.Lib.SlKeysI
import Derived.Shelf.SortM.Plain
import Derived.Shelf.SortM.SortNone
import Derived.Shelf.Slices.CompactI
import Derived.Ground.Names2Prog
import Derived.Test.YtbaikphpohdmoaaEslices_Clone_46
import Derived.Test.YtbaikphpohdmoaaEvOpen
set_option linter.unusedVariables false
set_option linter.unusedSimpArgs false
namespace Go.Proofs
open Go.Shelf
def Try.tw_sort_ren : Go.Shelf.Ren := ⟨fun | 5 => 74 | 8 => 48 | 7 => 78 | 19 => 63 | 20 => 64 | 10 => 79 | 11 => 80 | 12 => 81 | 13 => 82 | 14 => 83 | 15 => 84 | 16 => 85 | 17 => 86 | 18 => 87 | 30 => 88 | 31 => 69 | 32 => 70 | 33 => 89 | 34 => 90 | 35 => 49 | 40 => 91 | n => n, fun | 23 => 45 | 25 => 3 | 3 => 3 | 32 => 132 | 22 => 45 | 0 => 0 | 44 => 148 | 46 => 150 | 4 => 4 | 36 => 141 | 35 => 140 | 41 => 145 | 5 => 5 | 9 => 9 | 53 => 155 | 57 => 159 | 63 => 162 | 64 => 163 | n => n, fun | n => n⟩
theorem Try.tw_sort : Go.Proofs.SlLaysM.n5 Try.prog Try.tw_sort_ren := {
  mixed := by kernel_rfl
  f5 := ⟨Try.f74.name, by decide, Try.func74.trans (congrArg some (by kernel_rfl))⟩
  f7 := ⟨Try.f78.name, by decide, Try.func78.trans (congrArg some (by kernel_rfl))⟩
  f8 := Try.func48.trans (congrArg some (by kernel_rfl))
  f10 := ⟨Try.f79.name, by decide, Try.func79.trans (congrArg some (by kernel_rfl))⟩
  f11 := ⟨Try.f80.name, by decide, Try.func80.trans (congrArg some (by kernel_rfl))⟩
  f12 := ⟨Try.f81.name, by decide, Try.func81.trans (congrArg some (by kernel_rfl))⟩
  f13 := ⟨Try.f82.name, by decide, Try.func82.trans (congrArg some (by kernel_rfl))⟩
  f14 := ⟨Try.f83.name, by decide, Try.func83.trans (congrArg some (by kernel_rfl))⟩
  f15 := ⟨Try.f84.name, by decide, Try.func84.trans (congrArg some (by kernel_rfl))⟩
  f16 := ⟨Try.f85.name, by decide, Try.func85.trans (congrArg some (by kernel_rfl))⟩
  f17 := ⟨Try.f86.name, by decide, Try.func86.trans (congrArg some (by kernel_rfl))⟩
  f18 := ⟨Try.f87.name, by decide, Try.func87.trans (congrArg some (by kernel_rfl))⟩
  f19 := Try.func63.trans (congrArg some (by kernel_rfl))
  f20 := Try.func64.trans (congrArg some (by kernel_rfl))
  f30 := ⟨Try.f88.name, by decide, Try.func88.trans (congrArg some (by kernel_rfl))⟩
  f31 := Try.func69.trans (congrArg some (by kernel_rfl))
  f32 := Try.func70.trans (congrArg some (by kernel_rfl))
  f33 := ⟨Try.f89.name, by decide, Try.func89.trans (congrArg some (by kernel_rfl))⟩
  f34 := ⟨Try.f90.name, by decide, Try.func90.trans (congrArg some (by kernel_rfl))⟩
  f35 := ⟨Try.f49.name, by decide, Try.func49.trans (congrArg some (by kernel_rfl))⟩
  f40 := ⟨Try.f91.name, by decide, Try.func91.trans (congrArg some (by kernel_rfl))⟩
  t0 := Try.underlying0
  a0 := Try.isAgg0
  z0 := Try.sizeOf0
  v0 := Try.zeroValue0
  t3 := Try.underlying3
  a3 := Try.isAgg3
  z3 := Try.sizeOf3
  v3 := Try.zeroValue3
  t4 := Try.underlying4
  a4 := Try.isAgg4
  z4 := Try.sizeOf4
  v4 := Try.zeroValue4
  t5 := Try.underlying5
  a5 := Try.isAgg5
  z5 := Try.sizeOf5
  v5 := Try.zeroValue5
  t9 := Try.underlying9
  a9 := Try.isAgg9
  z9 := Try.sizeOf9
  v9 := Try.zeroValue9
  t22 := Try.underlying45
  a22 := Try.isAgg45
  z22 := Try.sizeOf45
  v22 := Try.zeroValue45
  t23 := Try.underlying45
  a23 := Try.isAgg45
  z23 := Try.sizeOf45
  v23 := Try.zeroValue45
  t25 := Try.underlying3
  a25 := Try.isAgg3
  z25 := Try.sizeOf3
  v25 := Try.zeroValue3
  t32 := Try.underlying132
  a32 := Try.isAgg132
  z32 := Try.sizeOf132
  v32 := Try.zeroValue132
  t35 := Try.underlying140
  a35 := Try.isAgg140
  z35 := Try.sizeOf140
  v35 := Try.zeroValue140
  t36 := Try.underlying141
  a36 := Try.isAgg141
  z36 := Try.sizeOf141
  v36 := Try.zeroValue141
  t41 := Try.underlying145
  a41 := Try.isAgg145
  z41 := Try.sizeOf145
  v41 := Try.zeroValue145
  t44 := Try.underlying148
  a44 := Try.isAgg148
  z44 := Try.sizeOf148
  v44 := Try.zeroValue148
  t46 := Try.underlying150
  a46 := Try.isAgg150
  z46 := Try.sizeOf150
  v46 := Try.zeroValue150
  t53 := Try.underlying155
  a53 := Try.isAgg155
  z53 := Try.sizeOf155
  v53 := Try.zeroValue155
  t57 := Try.underlying159
  a57 := Try.isAgg159
  z57 := Try.sizeOf159
  v57 := Try.zeroValue159
  t63 := Try.underlying162
  a63 := Try.isAgg162
  z63 := Try.sizeOf162
  v63 := Try.zeroValue162
  t64 := Try.underlying163
  a64 := Try.isAgg163
  z64 := Try.sizeOf163
  v64 := Try.zeroValue163 }
def Try.tw_compact_ren : Go.Shelf.Ren := ⟨fun | 20 => 67 | n => n, fun | 22 => 45 | 3 => 3 | 4 => 4 | 0 => 0 | n => n, fun | n => n⟩
theorem Try.tw_compact : Go.Proofs.Lays2.n20 Try.prog Try.tw_compact_ren := {
  mixed := by kernel_rfl
  f20 := Try.func67.trans (congrArg some (by kernel_rfl))
  t0 := Try.underlying0
  a0 := Try.isAgg0
  z0 := Try.sizeOf0
  v0 := Try.zeroValue0
  t3 := Try.underlying3
  a3 := Try.isAgg3
  z3 := Try.sizeOf3
  v3 := Try.zeroValue3
  t4 := Try.underlying4
  a4 := Try.isAgg4
  z4 := Try.sizeOf4
  v4 := Try.zeroValue4
  t22 := Try.underlying45
  a22 := Try.isAgg45
  z22 := Try.sizeOf45
  v22 := Try.zeroValue45
  i3 := by kernel_rfl }
end Go.Proofs
namespace Go.Proofs
open Go Go.RowKit Go.Shelf Go.Proofs.Ytbaikphpohdmoaa.Ev
attribute [local go_sem] Oper.semAt_some
namespace Ytbaikphpohdmoaa.Tw
def vint : Value → Nat
  | .int _ n => n.toNat
  | _ => 0
/-- What has come when k rounds are over. -/
def upto (f : Nat → Int) (k : Nat) : List Int := (List.range k).map f
theorem upto_succ (f : Nat → Int) (k : Nat) : upto f (k + 1) = upto f k ++ [f k] := by simp [upto, List.range_succ]
theorem upto_length (f : Nat → Int) (k : Nat) : (upto f k).length = k := by simp [upto]
theorem upto_all (zs : List Int) : upto (fun j => zs[j]?.getD 0) zs.length = zs := by
  apply List.ext_getElem
  · simp [upto]
  · intro i h1 h2
    simp [upto, h2]
theorem upto_take (zs : List Int) {k : Nat} (hk : k ≤ zs.length) : upto (fun j => zs[j]?.getD 0) k = zs.take k := by
  apply List.ext_getElem
  · simp [upto, hk]
  · intro i h1 h2
    have : i < zs.length := by simp [upto] at h1; omega
    simp [upto, this]
set_option maxRecDepth 100000 in
set_option maxHeartbeats 2000000 in
theorem values1_in (n : Nat) (hn : 1 ≤ n) (l Bs n0 len cap : Nat) (ad : Addr) (zs : List Int) (hreach : len * 8 ≤ 140737488351232) (hb : ad.block < n0) (J Jx : List Int → World → Prop)
    (hY : ∀ pre x W, J pre W → pre.length < len → YieldAt Fence.wide (n - 1) Try.prog l #[.int .i64 x] W fun e W' =>
      (e = .returned (.bool true) ∧ J (pre ++ [x]) W' ∧ Below n0 W W') ∨ (e = .returned (.bool false) ∧ Jx (pre ++ [x]) W'))
    (W : World) (hBs : W.cell? ⟨Bs, 0, none⟩ = some (.slice (some ad) len cap)) (hc : ∀ j, j < len → W.cell? (ad.add j) = some (.int .i64 (zs[j]?.getD 0))) (h0 : J [] W) :
    CallsIn Fence.wide n Try.prog 75 #[.func (.yield l) #[] #[], .pointer (some ⟨Bs, 0, none⟩)] W fun e W' => (∃ v, e = .returned v) ∧
      ((∃ ys, ys = upto (fun j => zs[j]?.getD 0) len ∧ J ys W') ∨ (∃ pre, (∃ k, k ≤ len ∧ pre = upto (fun j => zs[j]?.getD 0) k) ∧ Jx pre W')) := by
  refine callsIn_of_wp Try.func75 rfl trivial ?_ rfl
  simp only [Try.ntmps75, List.size_toArray, List.length_cons, List.length_nil, Nat.reduceAdd, Nat.reduceSub, Array.replicate_succ, Array.replicate_zero, List.push_toArray, List.append_toArray, List.nil_append, List.cons_append]
  gi_wp2
  gi_loopw [7] (fun i wr => ∃ k : Nat, k ≤ len ∧ i = .int .i64 k ∧ J (upto (fun j => zs[j]?.getD 0) k) wr ∧ Below n0 W wr)
    (fun i _ => len - vint i)
  case atStart => exact ⟨0, Nat.zero_le _, rfl, h0, Below.refl _ _⟩
  case round =>
    obtain ⟨k, hk, rfl, hJs, hnx⟩ := hrel
    have hcx : k < len → wr.cell? (ad.add k) = some (.int .i64 (zs[k]?.getD 0)) := fun h => (hnx.cell (p := ad.add k) (by rw [add_block]; exact hb)).trans (hc k h)
    by_cases hlt : k < len
    · obtain ⟨fn, tmps, assign, body, hy, hR⟩ := hY _ (zs[k]?.getD 0) wr hJs (by rw [upto_length]; exact hlt)
      have hcx' := hcx hlt
      gi_wp2
      refine hR.mono ?_
      rintro e W3 (⟨rfl, hJ3, hk3⟩ | ⟨rfl, hJx3⟩)
      · gi_wp2
        go_roundw
        case rel => exact ⟨k + 1, by omega, by simp, by rw [upto_succ]; exact hJ3, hnx.trans hk3⟩
        case measure => simp [vint]; omega
      · gi_wp2
        refine bodyPost_ret (results_none rfl _ _ _) rfl ?_
        exact ⟨⟨_, rfl⟩, .inr ⟨_, ⟨k + 1, by omega, (upto_succ _ _).symm⟩, hJx3⟩⟩
    · obtain rfl : k = len := by omega
      gi_wp2
      go_end0
      exact ⟨⟨_, rfl⟩, .inl ⟨_, rfl, hJs⟩⟩
set_option maxRecDepth 100000 in
set_option maxHeartbeats 1000000 in
theorem values1_nil_in (n : Nat) (l Bs cap : Nat) (a : Option Addr) (J : List Int → World → Prop) (W : World) (hBs : W.cell? ⟨Bs, 0, none⟩ = some (.slice a 0 cap)) (h0 : J [] W) :
    CallsIn Fence.wide n Try.prog 75 #[.func (.yield l) #[] #[], .pointer (some ⟨Bs, 0, none⟩)] W fun e W' => (∃ v, e = .returned v) ∧ J [] W' := by
  refine callsIn_of_wp Try.func75 rfl trivial ?_ rfl
  simp only [Try.ntmps75, List.size_toArray, List.length_cons, List.length_nil, Nat.reduceAdd, Nat.reduceSub, Array.replicate_succ, Array.replicate_zero, List.push_toArray, List.append_toArray, List.nil_append, List.cons_append]
  gi_wp2
  gi_loopw [7] (fun i wr => i = .int .i64 0 ∧ J [] wr) (fun _ _ => 0)
  case atStart => exact ⟨rfl, h0⟩
  case round =>
    obtain ⟨rfl, hJs⟩ := hrel
    gi_wp2
    go_end0
    exact ⟨⟨_, rfl⟩, hJs⟩
set_option maxHeartbeats 1000000 in
theorem values_in (n : Nat) (a : Option Addr) (len cap : Nat) (w : World) :
    CallsIn Fence.wide n Try.prog 66 #[.slice a len cap] w fun e w' => e = .returned (.func (.func 75) #[] #[.pointer (some ⟨w.heap.size, 0, none⟩)]) ∧ w' = w.alloc (.cells #[.slice a len cap] 45) := by
  refine callsIn_of_wp Try.func66 rfl trivial ?_ rfl
  simp only [Try.ntmps66, List.size_toArray, List.length_cons, List.length_nil, Nat.reduceAdd, Nat.reduceSub, Array.replicate_succ, Array.replicate_zero, List.push_toArray, List.append_toArray, List.nil_append, List.cons_append]
  gi_wp2
  go_ret
  exact ⟨rfl, rfl⟩
/-- The slice holds these numbers, in a block below n0; or it has none. -/
def Ints (n0 : Nat) (W : World) (sv : Value) (zs : List Int) : Prop :=
  (∃ a cap, sv = .slice a 0 cap ∧ zs = []) ∨ ∃ ad cap, sv = .slice (some ad) zs.length cap ∧ ad.block < n0 ∧ ∀ j, j < zs.length → W.cell? (ad.add j) = some (.int .i64 (zs[j]?.getD 0))
theorem Ints.below {n0 : Nat} {A B : World} (h : Below n0 A B) {sv : Value} {zs : List Int} : Ints n0 A sv zs → Ints n0 B sv zs
  | .inl e => .inl e
  | .inr ⟨ad, cap, e, hb, hc⟩ => .inr ⟨ad, cap, e, hb, fun j hj => (h.cell (p := ad.add j) (by rw [add_block]; exact hb)).trans (hc j hj)⟩
theorem values_stops (n : Nat) (hn : 1 ≤ n) (Bs n0 : Nat) (sv : Value) (zs : List Int) (hreach : zs.length * 8 ≤ 140737488351232) (w : World) (hBs : Bs < w.heap.size) (hn0 : n0 ≤ w.heap.size)
    (hc : w.cell? ⟨Bs, 0, none⟩ = some sv) (hI : Ints n0 w sv zs) :
    SeqStopsK Fence.wide n Try.prog 75 #[.pointer (some ⟨Bs, 0, none⟩)] (fun x : Int => #[Value.int .i64 x]) (Below n0) (fun ys => ys = zs) (fun pre => pre <+: zs) zs.length w := fun l J Jx W hW _ _ hY h0 => by
  have hc' := (hW.cell (p := ⟨Bs, 0, none⟩) hBs).trans hc
  rcases hI.below (hW.mono hn0) with ⟨a, cap, rfl, rfl⟩ | ⟨ad, cap, rfl, hb, hcs⟩
  · exact (values1_nil_in n l Bs cap a J W hc' h0).mono fun e W' ⟨he, hj⟩ => ⟨he, .inl ⟨_, rfl, hj⟩⟩
  · refine (values1_in n hn l Bs n0 zs.length cap ad zs hreach hb J Jx hY W hc' hcs h0).mono ?_
    rintro e W' ⟨he, ⟨ys, rfl, hj⟩ | ⟨pre, ⟨k, hk, rfl⟩, hj⟩⟩
    · exact ⟨he, .inl ⟨_, upto_all zs, hj⟩⟩
    · exact ⟨he, .inr ⟨_, by rw [upto_take zs hk]; exact List.take_prefix _ _, hj⟩⟩
theorem grown_of_below {W W' : World} (h : Below W.heap.size W W') : W.grownBy W' none := ⟨h.os, h.tape, h.output, h.size, fun k hk _ => h.block k hk⟩
theorem info3 : (Try.prog.info? 3).map (fun i => (i.zero, i.size, i.bytes)) = some (some (.int .i64 0), 1, 8) := by kernel_rfl
set_option maxRecDepth 100000 in
set_option maxHeartbeats 2000000 in
/-- slices.AppendSeq onto nil: a new list, of what comes. -/
theorem append_in (Bs : Nat) (sv : Value) (zs : List Int) (hlen : zs.length ≤ 1000000) (w : World) (hBs : Bs < w.heap.size) (hc : w.cell? ⟨Bs, 0, none⟩ = some sv) (hI : Ints w.heap.size w sv zs) :
    CallsIn Fence.wide 3 Try.prog 77 #[.slice none 0 0, .func (.func 75) #[] #[.pointer (some ⟨Bs, 0, none⟩)]] w fun e W' => ∃ v, e = .returned v ∧ W'.ownsRow w.heap.size 3 1 v zs.length (zs.map (Value.int .i64)) ∧ (v = .slice none 0 0 ↔ zs = []) ∧ Below w.heap.size w W' := by
  obtain ⟨i0, hi, hz0, hz1, hz2⟩ := info_parts info3
  refine callsIn_of_wp_marks Try.func77 rfl trivial ?_ rfl
  simp only [Try.ntmps77, List.size_toArray, List.length_cons, List.length_nil, Nat.reduceAdd, Nat.reduceSub, Array.replicate_succ, Array.replicate_zero, List.push_toArray, List.append_toArray, List.nil_append, List.cons_append]
  gi_wp2
  have hml : zs.length ≤ maxLen := by unfold maxLen; omega
  have bO := Boxed.new w 45 (.slice none 0 0)
  have hB0 : Below w.heap.size w (w.alloc (.cells #[.slice none 0 0] 45)) := (Below.refl _ w).alloc (Nat.le_refl _) _
  have hst := values_stops (3 - 1) (by omega) Bs w.heap.size sv zs (by omega) (w.alloc (.cells #[.slice none 0 0] 45)) (by simp; omega) (by simp) ((hB0.cell (p := ⟨Bs, 0, none⟩) hBs).trans hc) (hI.below hB0)
  refine wpIn_rangeFunc_ownG rfl (by omega) (gf := 75) (lb := #[.pointer (some ⟨Bs, 0, none⟩)]) rfl trivial (enters_of Try.func75 (by kernel_rfl) rfl)
    hst (fun h1 h2 => h1.trans h2) (fun W l o o' hl ho h1 h2 => belowK_b (w := w) (Nat.le_refl _) W l o o' (by simp at hl; omega) ho h1 h2) (Below.refl _ _) (fun _ => rfl)
    (fun pre W => (∃ v, Boxed W w.heap.size 45 v ∧ W.ownsRow w.heap.size 3 1 v pre.length (pre.map (Value.int .i64)) ∧ (v = .slice none 0 0 ↔ pre = [])) ∧ Below w.heap.size w W)
    (fun _ _ _ => False)
    (OwnFrom.and (Own.from (holdsRow_own w.heap.size w.heap.size 45 3 1 (fun pre => pre.length) (fun pre => pre.map (Value.int .i64)) (fun pre v => v = .slice none 0 0 ↔ pre = [])) _) (ownFrom_below (Nat.le_refl _) (by simp)))
    (fun _ _ _ _ _ hs _ _ => hs)
    ⟨⟨_, bO, World.ownsRow_nil _ _ _ _, by simp⟩, hB0⟩
    (fun x => { tmps := #[.slice none 0 0, .func (.func 75) #[] #[.pointer (some ⟨Bs, 0, none⟩)], .pointer (some ⟨w.heap.size, 0, none⟩), undef, .slice none 0 0, .int .i64 x, .func (.func 75) #[] #[.pointer (some ⟨Bs, 0, none⟩)], .int .i64 x, undef, undef, undef, undef, undef], defers := [] }) ?assign ?body ?done ?stop
  case assign =>
    intro l x W K hK
    gi_wp2
    exact hK
  case body =>
    rintro l pre x W ⟨⟨v, hv, hrow, hnil⟩, hB⟩ hlt
    have hc := hv.cell
    gi_wp2_with (gi_at_builtin; refine wpListIn_append_own _ rfl _ _ 45 rfl w.heap.size 3 i0 (.int .i64 0) 1 8 Try.underlying45 hi hz0 hz1 hz2 rfl (by decide) _ _ _ rfl (hrow.alloc _) ⟨W.heap.size, 0, none⟩ 1 1 [.int .i64 x] rfl rfl (cell_one_new _ _ _) (by simp [Value.oneCell']) (by omega) (by omega) (by have := hB.size; simp; omega) ?_; intro v' w1 hown' hgrow _; obtain ⟨g', cap', rfl⟩ := ownsRow_succ hown'; obtain ⟨hv1, hv2, hr2, hk2, hb2⟩ := hv.appended (by decide) hrow hB.size (Nat.le_refl _) hown' hgrow; have hc1 := hv1.cell; have hf1 := hv1.frozen)
    exact ⟨hk2.from _, hb2, ⟨_, hv2, by simpa using hr2, by simp⟩, hB.trans hb2⟩
  case done =>
    rintro D ys W hD rfl ⟨⟨v, hv, hrow, hnil⟩, hB⟩ hK
    have hc := hv.cell
    gi_wp2
    refine ⟨by simp, .inl ⟨_, _, rfl, run_takeDeferred hK, ?_⟩⟩
    exact ⟨_, results_tmp rfl _ _ _, v, rfl, ownsRow_putObj hrow _ hK rfl, hnil, hB.trans (belowK_b (w := w) (Nat.le_refl _) W D _ _ (by simp at hD; omega) hK rfl rfl)⟩
  case stop =>
    rintro D c pre W _ _ h _
    exact h.elim
set_option maxHeartbeats 1000000 in
theorem collect_in (Bs : Nat) (sv : Value) (zs : List Int) (hlen : zs.length ≤ 1000000) (w : World) (hBs : Bs < w.heap.size) (hc : w.cell? ⟨Bs, 0, none⟩ = some sv) (hI : Ints w.heap.size w sv zs) :
    CallsIn Fence.wide 4 Try.prog 73 #[.func (.func 75) #[] #[.pointer (some ⟨Bs, 0, none⟩)]] w fun e W' => ∃ v, e = .returned v ∧ W'.ownsRow w.heap.size 3 1 v zs.length (zs.map (Value.int .i64)) ∧ (v = .slice none 0 0 ↔ zs = []) ∧ Below w.heap.size w W' := by
  refine callsIn_of_wp Try.func73 rfl trivial ?_ rfl
  simp only [Try.ntmps73, List.size_toArray, List.length_cons, List.length_nil, Nat.reduceAdd, Nat.reduceSub, Array.replicate_succ, Array.replicate_zero, List.push_toArray, List.append_toArray, List.nil_append, List.cons_append]
  gi_wp2_with (refine ⟨trivial, ?_⟩; gi_at_call 77; refine (append_in Bs sv zs hlen _ hBs hc hI).mono ?_; rintro e w' ⟨v, rfl, hrow, hnil, hb⟩)
  go_ret
  exact ⟨v, rfl, hrow, hnil, hb⟩
set_option maxHeartbeats 2000000 in
theorem sorted_in (Bs : Nat) (sv : Value) (zs : List Int) (hlen : zs.length ≤ 1000000) (w : World) (hBs : Bs < w.heap.size) (hc : w.cell? ⟨Bs, 0, none⟩ = some sv) (hI : Ints w.heap.size w sv zs) :
    CallsIn Fence.wide 5 Try.prog 65 #[.func (.func 75) #[] #[.pointer (some ⟨Bs, 0, none⟩)]] w fun e W' => ∃ v, e = .returned v ∧ W'.ownsRow w.heap.size 3 1 v zs.length ((zs.mergeSort fun x y => decide (x ≤ y)).map (Value.int .i64)) ∧ Below w.heap.size w W' := by
  refine callsIn_of_wp Try.func65 rfl trivial ?_ rfl
  simp only [Try.ntmps65, List.size_toArray, List.length_cons, List.length_nil, Nat.reduceAdd, Nat.reduceSub, Array.replicate_succ, Array.replicate_zero, List.push_toArray, List.append_toArray, List.nil_append, List.cons_append]
  gi_wp2_with (refine ⟨trivial, ?_⟩; gi_at_call 73; refine (collect_in Bs sv zs hlen _ hBs hc hI).mono ?_; rintro e W ⟨v, rfl, hrow, hnil, hb⟩)
  rcases hrow.2 with ⟨rfl, hz⟩ | ⟨gb, cap, cur, rfl, hbase, hgb, r1, r2, r3, r4⟩
  · have hss : zs = [] := List.eq_nil_of_length_eq_zero hz
    subst hss
    gi_wp2_with (refine ⟨trivial, ?_⟩; gi_at_call 74; refine (callsIn_wide.2 (AnyM.slices_Sort_int_none Try.tw_sort none 0 W)).mono ?_; rintro e w' ⟨rfl, rfl⟩)
    go_ret
    exact ⟨.slice none 0 0, rfl, by simpa using hrow, hb⟩
  · have hH : Sort.Holds encZ W gb 0 zs.toArray := holds_of_block_i hgb (by simpa using r4)
    have hgl : gb < W.heap.size := (Array.getElem?_eq_some_iff.1 hgb).1
    gi_wp2_with (refine ⟨trivial, ?_⟩; gi_at_call 74; refine (callsIn_wide.2 (AnyM.slices_Sort_int Try.tw_sort gb 0 cap zs W hH hgl (by omega))).mono ?_; rintro e w' ⟨rfl, nn, os, rfl⟩)
    go_ret
    exact ⟨_, rfl, ownsRow_sorted_i (by simp) hbase hgb r1 r2 r3, hb.grown (grownBy_sorted_i _) hb.size (fun j hj => by cases hj; exact hbase)⟩
theorem clone_calls (k : Nat) (nl nl' : Bool) (l l' : List Int) (h : slices_Clone_46 k nl l = some (nl', l')) (w : World) (v : Value) (hrc : RC NoO w (.sl (.int .i64)) (nl, l) [v]) :
    Calls Try.prog 46 #[v] w fun e w' => ∃ v' xs, e = .returned v' ∧ rowOf w' w.heap.size 3 1 v' l'.length xs ∧ (∀ (i : Nat) (y : Int), l'[i]? = some y → xs[i]? = some (.int .i64 y)) ∧ Below w.heap.size w w' := by
  have hp := slices_Clone_46_ok k (nl, l) (nl', l') h NoO w #[v] [v] (fun _ h => h.elim) (fun g x h => by rw [tab_gl0] at h; cases h) hrc ⟨v, [], [], rfl, rfl, rfl, rfl⟩
  refine hp.mono ?_
  rintro e w' ⟨cs, rfl, hr, hb⟩
  have hl := hr.len
  obtain ⟨v', rfl⟩ : ∃ v', cs = [v'] := by
    match cs, hl with
    | [v'], _ => exact ⟨v', rfl⟩
  obtain ⟨t, nl2, l2, xs, e1, h1, _, h3⟩ := hr.cell 0 (.sl (.int .i64) nl' l') v' rfl rfl
  injection e1 with e2 e3 e4
  subst e2 e3
  obtain rfl := eq_of_heq e4
  refine ⟨v', xs, rfl, h1, fun i y hy => ?_, hb⟩
  have := h3 i y hy
  have hx : List.take 1 (List.drop (i * 1) xs) = [.int .i64 y] := this
  rw [Nat.mul_one] at hx
  cases hd : xs.drop i with
  | nil => rw [hd] at hx; simp at hx
  | cons z r =>
    rw [hd] at hx
    simp at hx
    have := congrArg (·[0]?) hd
    simp only [List.getElem?_drop, Nat.add_zero, List.getElem?_cons_zero] at this
    rw [this, hx]
theorem row_rc {W : World} {base : Nat} {v : Value} {l : List Int} (h : W.ownsRow base 3 1 v l.length (l.map (Value.int .i64))) : ∃ nl, RC NoO W (.sl (.int .i64)) (nl, l) [v] := by
  rcases h.2 with ⟨rfl, hz⟩ | ⟨g, cap, cur, rfl, _, hgb, r1, _, _, r4⟩
  · obtain rfl : l = [] := List.eq_nil_of_length_eq_zero hz
    exact ⟨true, none, 0, rfl, rfl, Nat.le_refl _, fun _ => rfl, fun i y hy => by simp at hy⟩
  · refine ⟨false, some ⟨g, 0, none⟩, cap, rfl, rfl, r1, (fun h => by cases h), fun i y hy => ⟨_, [.int .i64 y], rfl, fun h => h, fun j u hu => ?_, rfl⟩⟩
    cases j with
    | succ j => simp at hu
    | zero =>
      simp at hu
      subst hu
      rw [add_plain, Nat.zero_add]
      have hi : i < l.length := (List.getElem?_eq_some_iff.1 hy).1
      have hy : l[i]? = some y := hy
      have : (cur.toList.take (l.length * 1))[i]? = (l.map (Value.int .i64))[i]? := by rw [r4]
      rw [List.getElem?_take, if_pos (by omega), List.getElem?_map, hy] at this
      show World.cell? W ⟨g, i * 1 + 0, none⟩ = _
      simp only [World.cell?, hgb]
      simpa using this
theorem rc_ints {O : Nat → Prop} {w : World} {nl : Bool} {l : List Int} {v : Value} (h : RC O w (.sl (.int .i64)) (nl, l) [v]) : Ints w.heap.size w v l ∧ ∃ a cap, v = .slice a l.length cap := by
  obtain ⟨a, cap, e1, h1, h2, h3, h4⟩ : ∃ a cap, [v] = [.slice a l.length cap] ∧ (nl && l.isEmpty) = a.isNone ∧ l.length ≤ cap ∧ (a = none → cap = 0) ∧ ∀ i y, l[i]? = some y → ∃ ad c, a = some ad ∧ ¬ O ad.block ∧ (∀ j u, c[j]? = some u → w.cell? (ad.add (i * 1 + j)) = some u) ∧ RC O w (.int .i64) y c := h
  obtain rfl : v = .slice a l.length cap := by simpa using e1
  refine ⟨?_, a, cap, rfl⟩
  cases l with
  | nil => exact .inl ⟨a, cap, rfl, rfl⟩
  | cons z r =>
    right
    obtain ⟨ad, c, rfl, _, hc, hr⟩ := h4 0 z rfl
    obtain rfl : c = [.int .i64 z] := hr
    have h0 := hc 0 _ rfl
    refine ⟨ad, cap, rfl, ?_, fun j hj => ?_⟩
    · have := World.block_lt_of_cell? w _ h0
      rwa [add_block] at this
    · obtain ⟨ad', c', e', _, hc', hr'⟩ := h4 j ((z :: r)[j]) (List.getElem?_eq_getElem hj)
      cases e'
      have hr' : c' = [.int .i64 ((z :: r)[j])] := hr'
      subst hr'
      have := hc' 0 _ rfl
      rw [Nat.mul_one, Nat.add_zero] at this
      rw [this, List.getElem?_eq_getElem hj]; rfl
theorem Ints.mono {n0 n1 : Nat} (h : n0 ≤ n1) {W : World} {sv : Value} {zs : List Int} : Ints n0 W sv zs → Ints n1 W sv zs
  | .inl e => .inl e
  | .inr ⟨ad, cap, e, hb, hc⟩ => .inr ⟨ad, cap, e, Nat.lt_of_lt_of_le hb h, hc⟩
def sorted (l : List Int) : List Int := l.mergeSort fun x y => decide (x ≤ y)
theorem sorted_len (l : List Int) : (sorted l).length = l.length := by unfold sorted; simp
theorem clone_val (k : Nat) (nl : Bool) (l : List Int) (h : l.length ≤ 1000000) : ∃ nl', slices_Clone_46 k nl l = some (nl', l) := by
  unfold slices_Clone_46
  cases hb : (nl && l.isEmpty) with
  | true =>
    rw [Bool.and_eq_true] at hb
    obtain rfl := List.isEmpty_iff.1 hb.2
    exact ⟨true, by rw [cond_true]⟩
  | false => exact ⟨false, by rw [cond_false, decide_eq_true (by rw [List.length_nil]; omega), cond_true, List.nil_append]⟩
set_option maxRecDepth 100000 in
set_option maxHeartbeats 2000000 in
theorem twice_in (k : Nat) {O : Nat → Prop} {nl : Bool} {l : List Int} (hlen : l.length ≤ 1000000) {w : World} {v : Value} (hrc : RC O w (.sl (.int .i64)) (nl, l) [v]) :
    CallsIn Fence.wide 6 Try.prog 52 #[v] w fun e W' => e = .returned (.bool (decide ((Lib.compact (sorted l)).length < l.length))) ∧ Below w.heap.size w W' := by
  obtain ⟨hI, a, cap, rfl⟩ := rc_ints hrc
  clear hrc
  refine callsIn_of_wp Try.func52 rfl trivial ?_ rfl
  simp only [Try.ntmps52, List.size_toArray, List.length_cons, List.length_nil, Nat.reduceAdd, Nat.reduceSub, Array.replicate_succ, Array.replicate_zero, List.push_toArray, List.append_toArray, List.nil_append, List.cons_append]
  have hB0 : Below w.heap.size w (w.alloc (.cells #[.slice a l.length cap] 45)) := (Below.refl _ w).alloc (Nat.le_refl _) _
  have hc0 : (w.alloc (.cells #[.slice a l.length cap] 45)).cell? ⟨w.heap.size, 0, none⟩ = some (.slice a l.length cap) := (Boxed.new w 45 (.slice a l.length cap)).cell
  have hI0 : Ints (w.alloc (.cells #[.slice a l.length cap] 45)).heap.size (w.alloc (.cells #[.slice a l.length cap] 45)) (.slice a l.length cap) l := (hI.below hB0).mono (by simp)
  gi_wp2_with (first
    | (refine ⟨trivial, ?_⟩; gi_at_call 66; refine (values_in 5 a l.length cap _).mono ?_; rintro e w' ⟨rfl, rfl⟩)
    | (refine ⟨trivial, ?_⟩; gi_at_call 65; refine (sorted_in w.heap.size _ l hlen _ (by simp) hc0 hI0).mono ?_; rintro e W2 ⟨v2, rfl, hrow2, hb2⟩))
  have hrow2' : W2.ownsRow (w.alloc (.cells #[.slice a l.length cap] 45)).heap.size 3 1 v2 (sorted l).length ((sorted l).map (Value.int .i64)) := by rw [sorted_len]; exact hrow2
  obtain ⟨nl2, hrc2⟩ := row_rc hrow2'
  obtain ⟨_, a2, cap2, hv2⟩ := rc_ints hrc2
  obtain ⟨nl3, hcl⟩ := clone_val k nl2 (sorted l) (by rw [sorted_len]; exact hlen)
  have cC := clone_calls k nl2 nl3 (sorted l) (sorted l) hcl W2 v2 hrc2
  have hb02 : Below w.heap.size w W2 := hB0.trans (hb2.mono (by simp))
  clear hrow2 hrow2' hrc2 hcl
  subst hv2
  gi_wp2_with (refine ⟨trivial, ?_⟩; gi_at_call 46; refine (callsIn_wide.2 cC).mono ?_; rintro e W3 ⟨v3, xs, rfl, hrow3, hxs, hb3⟩)
  have hb03 : Below w.heap.size w W3 := hb02.trans (hb3.mono hb02.size)
  rcases hrow3 with ⟨h0, _, a3, rfl⟩ | ⟨g, c, cur, ty, fz, rfl, hat⟩
  · have hs0 : sorted l = [] := List.eq_nil_of_length_eq_zero h0
    gi_wp2_with (refine ⟨trivial, ?_⟩; gi_at_call 67; refine (callsIn_wide.2 (Any.slices_Compact_int_empty Try.tw_compact a3 0 W3)).mono ?_; rintro e w' ⟨rfl, rfl⟩)
    go_ret
    refine ⟨?_, hb03⟩
    rw [← sorted_len l, hs0]; rfl
  · have hH : Sort.Holds (Value.int .i64) W3 g 0 (sorted l).toArray := fun j hj => by
      have hj' : j < (sorted l).length := by simpa using hj
      have h1 := hxs j _ (List.getElem?_eq_getElem hj')
      have h2 := hat.cells j _ h1
      rw [add_plain] at h2
      refine ⟨by rw [h2]; simp [hj'], ?_⟩
      rcases hat.kind with ⟨_, _, rfl⟩ | ⟨hm, _⟩
      · simp [World.frozen?, hat.here]
      · exact absurd hm (by decide)
    have hcap := hat.num
    gi_wp2_with (refine ⟨trivial, ?_⟩; gi_at_call 67; refine (callsIn_wide.2 (Any.slices_Compact_int Try.tw_compact g 0 (c + 1) (sorted l) W3 hH (by rw [sorted_len]; omega) hcap)).mono ?_; rintro e w' ⟨rfl, q, rfl⟩)
    go_ret
    refine ⟨?_, ?_⟩
    · simp only [sorted_len]
      simp
    · exact hb03.trans ((grownBy_sorted_i (w := W3) (g := g) (n := q) (os := #[]) _) |> fun hg => by
        simp only [Sort.grow_empty] at hg
        exact (Below.refl _ W3).grown hg hb03.size (fun j hj => by cases hj; exact Nat.le_trans hb02.size hat.lo))
end Ytbaikphpohdmoaa.Tw
namespace Ytbaikphpohdmoaa.Ev
def book_twice (k : Nat) (nl : Bool) (l : List Int) : Option Bool := bif decide (l.length ≤ 1000000) then some (decide ((Lib.compact (Tw.sorted l)).length < l.length)) else none
def book_twice_p (k : Nat) : PF := { ps := [(false, 1)], rs := [(false, 1)], τ := (.sl (.int .i64)), σ := .bool, f := fun x => book_twice k x.1 x.2 }
theorem book_twice_ok (k : Nat) : PFOK Try.prog tab 52 (book_twice_p k) := by
  intro x y hf O w vs cells hO hgl hrc hsh
  obtain ⟨nl, l⟩ := x
  obtain ⟨v, ce, vs1, e1, e2, e5, e6⟩ : ∃ v ce vs1, cells = v :: ce ∧ vs.toList = v :: vs1 ∧ ce = [] ∧ vs1 = [] := hsh
  subst e6 e5 e1
  obtain rfl : vs = #[v] := by apply Array.toList_inj.1; rw [e2]
  have hf' : (bif decide (l.length ≤ 1000000) then some (decide ((Lib.compact (Tw.sorted l)).length < l.length)) else none) = some y := hf
  by_cases hl : l.length ≤ 1000000
  · rw [decide_eq_true hl, cond_true] at hf'
    obtain rfl := Option.some.inj hf'
    refine ((callsIn_wide (n := 6)).1 (Tw.twice_in k hl hrc)).mono ?_
    rintro e W' ⟨rfl, hb⟩
    refine ⟨[.bool _], rfl, ⟨rfl, fun j c u hc hu => ?_, fun i j e e' u u' q h1 h2 _ _ _ _ => ?_⟩, hb⟩
    · cases j with
      | zero => cases hc; cases hu; exact .bool _
      | succ j => cases hc
    · cases h1
  · rw [decide_eq_false hl, cond_false] at hf'
    cases hf'
end Ytbaikphpohdmoaa.Ev
end Go.Proofs
