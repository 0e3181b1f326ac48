/- slices.SortFunc of structs of three numbers, by the second of them, then the third: the shelf's contract, told as the evaluator wants it. -/
import Derived.Shelf.SlSortCmp.NoneTotal
import Derived.Test.YtbaikphpohdmoaaElmap_Map_Live_1
import Derived.Test.YtbaikphpohdmoaaEvOpen
set_option linter.unusedVariables false
set_option maxRecDepth 1000000
namespace Go.Proofs
open Go.Shelf
def Try.sort_lmap_Map_Live_1_lay_ren : Go.Shelf.Ren := ⟨fun | 6 => 33 | 15 => 48 | 14 => 47 | 28 => 63 | 29 => 64 | 20 => 55 | 21 => 56 | 22 => 57 | 23 => 58 | 24 => 59 | 25 => 60 | 26 => 61 | 27 => 62 | 46 => 68 | 47 => 69 | 48 => 70 | 49 => 71 | 50 => 72 | 57 => 76 | n => n, fun | 22 => 104 | 24 => 28 | 25 => 108 | 3 => 3 | 39 => 132 | 0 => 0 | 53 => 148 | 55 => 150 | 4 => 4 | 46 => 141 | 45 => 140 | 50 => 145 | 5 => 5 | 9 => 9 | 66 => 155 | 70 => 159 | 76 => 162 | 77 => 163 | n => n, fun | n => n⟩
theorem Try.sort_lmap_Map_Live_1_lay : Go.Proofs.SlLaysF0.n6 Try.prog Try.sort_lmap_Map_Live_1_lay_ren := {
  mixed := by kernel_rfl
  f6 := ⟨Try.f33.name, by decide, Try.func33.trans (congrArg some (by kernel_rfl))⟩
  f14 := ⟨Try.f47.name, by decide, Try.func47.trans (congrArg some (by kernel_rfl))⟩
  f15 := Try.func48.trans (congrArg some (by kernel_rfl))
  f20 := ⟨Try.f55.name, by decide, Try.func55.trans (congrArg some (by kernel_rfl))⟩
  f21 := ⟨Try.f56.name, by decide, Try.func56.trans (congrArg some (by kernel_rfl))⟩
  f22 := ⟨Try.f57.name, by decide, Try.func57.trans (congrArg some (by kernel_rfl))⟩
  f23 := ⟨Try.f58.name, by decide, Try.func58.trans (congrArg some (by kernel_rfl))⟩
  f24 := ⟨Try.f59.name, by decide, Try.func59.trans (congrArg some (by kernel_rfl))⟩
  f25 := ⟨Try.f60.name, by decide, Try.func60.trans (congrArg some (by kernel_rfl))⟩
  f26 := ⟨Try.f61.name, by decide, Try.func61.trans (congrArg some (by kernel_rfl))⟩
  f27 := ⟨Try.f62.name, by decide, Try.func62.trans (congrArg some (by kernel_rfl))⟩
  f28 := Try.func63.trans (congrArg some (by kernel_rfl))
  f29 := Try.func64.trans (congrArg some (by kernel_rfl))
  f46 := ⟨Try.f68.name, by decide, Try.func68.trans (congrArg some (by kernel_rfl))⟩
  f47 := Try.func69.trans (congrArg some (by kernel_rfl))
  f48 := Try.func70.trans (congrArg some (by kernel_rfl))
  f49 := ⟨Try.f71.name, by decide, Try.func71.trans (congrArg some (by kernel_rfl))⟩
  f50 := ⟨Try.f72.name, by decide, Try.func72.trans (congrArg some (by kernel_rfl))⟩
  f57 := ⟨Try.f76.name, by decide, Try.func76.trans (congrArg some (by kernel_rfl))⟩
  t0 := Try.underlying0
  a0 := Try.isAgg0
  z0 := Try.sizeOf0
  v0 := Try.zeroValue0
  t3 := Try.underlying3
  a3 := Try.isAgg3
  z3 := Try.sizeOf3
  v3 := Try.zeroValue3
  t4 := Try.underlying4
  a4 := Try.isAgg4
  z4 := Try.sizeOf4
  v4 := Try.zeroValue4
  t5 := Try.underlying5
  a5 := Try.isAgg5
  z5 := Try.sizeOf5
  v5 := Try.zeroValue5
  t9 := Try.underlying9
  a9 := Try.isAgg9
  z9 := Try.sizeOf9
  v9 := Try.zeroValue9
  t22 := Try.underlying104
  a22 := Try.isAgg104
  z22 := Try.sizeOf104
  v22 := Try.zeroValue104
  t25 := Try.underlying108
  a25 := Try.isAgg108
  z25 := Try.sizeOf108
  v25 := Try.zeroValue108
  t39 := Try.underlying132
  a39 := Try.isAgg132
  z39 := Try.sizeOf132
  v39 := Try.zeroValue132
  t45 := Try.underlying140
  a45 := Try.isAgg140
  z45 := Try.sizeOf140
  v45 := Try.zeroValue140
  t46 := Try.underlying141
  a46 := Try.isAgg141
  z46 := Try.sizeOf141
  v46 := Try.zeroValue141
  t50 := Try.underlying145
  a50 := Try.isAgg145
  z50 := Try.sizeOf145
  v50 := Try.zeroValue145
  t53 := Try.underlying148
  a53 := Try.isAgg148
  z53 := Try.sizeOf148
  v53 := Try.zeroValue148
  t55 := Try.underlying150
  a55 := Try.isAgg150
  z55 := Try.sizeOf150
  v55 := Try.zeroValue150
  t66 := Try.underlying155
  a66 := Try.isAgg155
  z66 := Try.sizeOf155
  v66 := Try.zeroValue155
  t70 := Try.underlying159
  a70 := Try.isAgg159
  z70 := Try.sizeOf159
  v70 := Try.zeroValue159
  t76 := Try.underlying162
  a76 := Try.isAgg162
  z76 := Try.sizeOf162
  v76 := Try.zeroValue162
  t77 := Try.underlying163
  a77 := Try.isAgg163
  z77 := Try.sizeOf163
  v77 := Try.zeroValue163 }
end Go.Proofs
namespace Go.Proofs.Ytbaikphpohdmoaa.Ev
open Go Go.RowKit Go.Proofs Go.Sort
abbrev W3 := Int × (Int × Int)
def cmp3 (x y : W3) : Int := if Lib.compareInt x.2.1 y.2.1 = 0 then Lib.compareInt x.2.2 y.2.2 else Lib.compareInt x.2.1 y.2.1
def enc3 (x : W3) : List Value := [.int .i64 x.1, .int .i64 x.2.1, .int .i64 x.2.2]
def sort_lmap_Map_Live_1 (l : List W3) : List W3 := (pdq (ltOf cmp3) l.toArray 0 l.length (Lib.bitLen l.length) true true).toList
theorem cmpI_eq (a b : Int) : Lib.compareInt a b = if a < b then -1 else if b < a then 1 else 0 := rfl
theorem cmp3_lt (x y : W3) : ltOf cmp3 x y = decide (x.2.1 < y.2.1 ∨ x.2.1 = y.2.1 ∧ x.2.2 < y.2.2) := by
  unfold ltOf cmp3
  rw [cmpI_eq, cmpI_eq]
  apply decide_eq_decide.2
  split <;> split at * <;> (try split at *) <;> (try split at *) <;> omega
theorem cmp3_swo : SWO (ltOf cmp3) where
  irrefl x := by rw [cmp3_lt]; simp
  trans x y z h1 h2 := by rw [cmp3_lt] at *; simp at *; omega
  ntrans x y z h1 h2 := by rw [cmp3_lt] at *; simp at *; omega
theorem cmpc_val (k : Nat) (x y : Int) : cmp_Compare k x y = some (Lib.compareInt x y) := by
  unfold cmp_Compare cmp_isNaN
  rw [cmpI_eq, decide_eq_true rfl, decide_eq_true rfl]
  show (bif decide (x < y) then some (-1) else bif decide (y < x) then some 1 else some 0) = _
  by_cases h1 : x < y
  · rw [if_pos h1, decide_eq_true h1]; rfl
  · rw [if_neg h1, decide_eq_false h1]
    by_cases h2 : y < x
    · rw [if_pos h2, decide_eq_true h2]; rfl
    · rw [if_neg h2, decide_eq_false h2]; rfl
theorem cmp3_val (x y : W3) : lmap_Map_Live_1 300 x.1 x.2.1 x.2.2 y.1 y.2.1 y.2.2 = some (cmp3 x y) := by
  unfold lmap_Map_Live_1 cmp3
  rw [cmpc_val, cmpc_val]
  generalize Lib.compareInt x.2.1 y.2.1 = a
  generalize Lib.compareInt x.2.2 y.2.2 = b
  show (optb (cmp_Or 300 false [a, b]) fun r => some r) = _
  have h : cmp_Or 300 false [a, b] = bif (!(decide (a = 0))) then some a else (bif (!(decide (b = 0))) then some b else some 0) := by kernel_rfl
  rw [h]
  by_cases h1 : a = 0
  · rw [if_pos h1, decide_eq_true h1]
    by_cases h2 : b = 0
    · rw [decide_eq_true h2, h2]; rfl
    · rw [decide_eq_false h2]; rfl
  · rw [if_neg h1, decide_eq_false h1]; rfl
theorem grown_of_belowD {W W' : World} (h : BelowD W.heap.size W W') : ∃ q os', W' = Go.Sort.grow (W.drewN q) os' := by
  refine ⟨W'.drawn - W.drawn, W'.heap.extract W.heap.size W'.heap.size, ?_⟩
  have hh : W'.heap = W.heap ++ W'.heap.extract W.heap.size W'.heap.size := by
    apply Array.ext_getElem?
    intro k
    by_cases hk : k < W.heap.size
    · rw [h.block k hk, Array.getElem?_append_left hk]
    · rw [Array.getElem?_append_right (by omega), Array.getElem?_extract]
      have := h.size
      by_cases hk2 : k < W'.heap.size
      · rw [if_pos (by omega)]; congr 1; omega
      · rw [if_neg (by omega), Array.getElem?_eq_none (by omega)]
  have hd := h.drawn
  have ho := h.below.os
  have ht := h.below.tape
  have hp := h.below.output
  obtain ⟨h1, t1, d1, o1, p1⟩ := W
  obtain ⟨h2, t2, d2, o2, p2⟩ := W'
  simp only at hd ho ht hp hh
  subst ho ht hp
  unfold Go.Sort.grow World.drewN
  simp only
  rw [← hh, show d1 + (d2 - d1) = d2 by omega]
theorem cmp3_calls (x y : W3) (W : World) : Calls Try.prog 34 #[.agg (enc3 x).toArray, .agg (enc3 y).toArray] W fun e w' => e = .returned (.int .i64 (cmp3 x y)) ∧ ∃ q os', w' = Go.Sort.grow (W.drewN q) os' := by
  have hp := lmap_Map_Live_1_ok 300 (x, y) (cmp3 x y) (cmp3_val x y) NoO W #[.agg (enc3 x).toArray, .agg (enc3 y).toArray] (enc3 x ++ enc3 y)
    (fun _ h => h.elim) (fun g x h => by rw [tab_gl0] at h; cases h)
    ⟨enc3 x, enc3 y, rfl, ⟨[_], [_, _], rfl, rfl, [_], [_], rfl, rfl, rfl⟩, ⟨[_], [_, _], rfl, rfl, [_], [_], rfl, rfl, rfl⟩⟩
    ⟨(enc3 x).toArray, _, rfl, rfl, rfl, (enc3 y).toArray, _, rfl, rfl, rfl, rfl, rfl⟩
  refine hp.mono ?_
  rintro e w' ⟨cs, rfl, hr, hb⟩
  refine ⟨?_, grown_of_belowD hb⟩
  have hl := hr.len
  obtain ⟨v, rfl⟩ : ∃ v, cs = [v] := by
    match cs, hl with
    | [v], _ => exact ⟨v, rfl⟩
  have hv := hr.cell 0 (.int .i64 (cmp3 x y)) v rfl rfl
  have := inv_int hv
  subst this
  rfl
def sort_lmap_Map_Live_1_s : SF := { τ := .pair (.int .i64) (.pair (.int .i64) (.int .i64)), f := sort_lmap_Map_Live_1 }
theorem sort_lmap_Map_Live_1_len (l : List W3) : (sort_lmap_Map_Live_1 l).length = l.length := by
  have h := (pdq_sorts (ltOf cmp3) cmp3_swo l.toArray 0 l.length (Lib.bitLen l.length) true true (Nat.zero_le _) (by simp) (Or.inl rfl)).1.1
  unfold sort_lmap_Map_Live_1
  rw [Array.length_toList, h]; simp
theorem sort_lmap_Map_Live_1_ok : SOK Try.prog 33 34 sort_lmap_Map_Live_1_s := by
  refine ⟨List.eq_nil_of_length_eq_zero (sort_lmap_Map_Live_1_len []), fun a w => AnyF.slices_SortFunc_none Try.sort_lmap_Map_Live_1_lay a 0 _ w, ?_⟩
  intro (l : List W3) w base e xs b c cur ty fz O row hel hlen
  have hlt := row.lt
  have hsz := row.len
  have hnum : List.length (α := W3) l ≤ c + 1 := row.num
  have hlen : List.length (α := W3) l ≤ 1099511627776 := hlen
  change cur.size = (c + 1) * 3 at hsz
  have hfl : ∀ i : Nat, i < (c + 1) * 3 → w.frozen? ⟨b, i, none⟩ = false := by
    intro i hi
    unfold World.frozen?
    simp only [row.here]
    rcases row.kind with ⟨_, _, h⟩ | ⟨_, h⟩
    · rw [h]; simp
    · change (c + 1) * 3 ≤ fz.1 at h
      simp; omega
  have hcell : ∀ (i : Nat) (y : W3), l[i]? = some y → (xs.drop (i * 3)).take 3 = enc3 y := by
    intro i y hy
    have := hel i y hy
    obtain ⟨c1, c2, h1, h2, c3, c4, h3, h4, h5⟩ := this
    have h2 : c1 = [.int .i64 y.1] := h2
    have h4 : c3 = [.int .i64 y.2.1] := h4
    have h5 : c4 = [.int .i64 y.2.2] := h5
    subst h2 h4 h5
    rw [h3] at h1
    exact h1
  have hcur : ∀ j, j < l.length * 3 → cur[j]? = some ((flatK enc3 3 l.toArray)[j]!) := by
    intro j hj
    have hi : j / 3 < l.length := by omega
    rw [get_flatK enc3 3 l.toArray j (by rw [List.size_toArray]; exact hj)]
    have h1 : l.toArray[j / 3]! = l[j / 3] := by rw [getElem!_pos l.toArray (j / 3) (by simpa using hi)]; simp
    rw [h1]
    have h2 := hcell (j / 3) l[j / 3] (List.getElem?_eq_getElem hi)
    have h3 := congrArg (fun L : List Value => L[j % 3]?) h2
    rw [List.getElem?_take_of_lt (by omega), List.getElem?_drop, show j / 3 * 3 + j % 3 = j by omega] at h3
    have h4 : xs[j]? = cur[j]? := by
      rw [← row.tk, List.getElem?_take_of_lt (by show j < l.length * 3; exact hj), Array.getElem?_toList]
    rw [h4] at h3
    rw [h3]
    have hm : j % 3 < (enc3 l[j / 3]).length := by show j % 3 < 3; omega
    rw [List.getElem?_eq_getElem hm, getElem!_pos (enc3 l[j / 3]) (j % 3) hm]
  have hH : HoldsK enc3 3 w b 0 l.toArray := by
    intro j hj
    have hj : j < l.length * 3 := by rwa [size_flatK, List.size_toArray] at hj
    rw [Nat.zero_add]
    refine ⟨?_, hfl j (by have := Nat.mul_le_mul_right 3 hnum; omega)⟩
    unfold World.cell?
    simp only [row.here]
    exact hcur j hj
  have eg : ∀ args w, (callFunc 34 args).run Try.prog w = .ok (.enter 34 args) w := enters_of Try.func34 (by kernel_rfl) rfl
  have hmain := AnyQ.slices_SortFunc_eq Try.sort_lmap_Map_Live_1_lay 3 Try.isAgg28 Try.sizeOf28 enc3 (fun _ => rfl) (fun x v hv => by simp [enc3] at hv; rcases hv with rfl | rfl | rfl <;> rfl) cmp3 cmp3_swo 34 #[] b 0 (c + 1) l.toArray w eg (fun _ _ _ _ x y => cmp3_calls x y _) hH hlt (by show l.length < _; omega)
  refine hmain.mono ?_
  rintro e' w' ⟨rfl, n, os, rfl⟩
  have hd : pdq (ltOf cmp3) l.toArray 0 l.toArray.size (Lib.bitLen l.toArray.size) true true = (sort_lmap_Map_Live_1 l).toArray := by unfold sort_lmap_Map_Live_1; rw [Array.toArray_toList]; rfl
  rw [hd]
  have hl := sort_lmap_Map_Live_1_len l
  change (sort_lmap_Map_Live_1 l).length = l.length at hl
  refine ⟨rfl, hl, ?_⟩
  generalize hde : sort_lmap_Map_Live_1 l = d at hl ⊢
  have hF : ∀ j, j < l.length * 3 → (flatK enc3 3 d.toArray)[j]! = (enc3 (d.toArray[j / 3]!))[j % 3]! := fun j hj => get_flatK enc3 3 d.toArray j (by rw [List.size_toArray, hl]; exact hj)
  have hFs : (flatK enc3 3 d.toArray).size = l.length * 3 := by rw [size_flatK, List.size_toArray, hl]
  generalize hFe : flatK enc3 3 d.toArray = F at hF hFs
  have hrow : (sortWorldK enc3 3 w b 0 n d.toArray os).heap = w.heap.modify b (onCells (putCells id 0 F)) ++ os := by
    rw [← hFe]; rfl
  have hat : (sortWorldK enc3 3 w b 0 n d.toArray os).heap[b]? = some (.cells (putCells id 0 F cur) ty fz) := by
    rw [hrow, Array.getElem?_append_left (by simpa using hlt), Array.getElem?_modify, if_pos rfl, row.here]; rfl
  have hget : ∀ j, j < l.length * 3 → (putCells id 0 F cur)[j]? = some (F[j]!) := by
    intro j hj
    unfold putCells
    rw [Array.getElem?_mapIdx, hcur j hj]
    simp only [Option.map_some]
    rw [if_pos ⟨Nat.zero_le _, by rw [hFs]; omega⟩, Nat.sub_zero]; rfl
  refine ⟨putCells id 0 F cur, hat, by unfold putCells; simp, ?_, ?_, ?_, rfl, rfl, rfl, Nat.le_add_right _ _⟩
  · intro i (y : W3) O' w2 hy'
    have hy : d[i]? = some y := by rw [← hde]; exact hy'
    have hi : i < d.length := (List.getElem?_eq_some_iff.1 hy).1
    have hil : i < l.length := by rw [← hl]; exact hi
    have hdy : d.toArray[i]! = y := by
      rw [getElem!_pos d.toArray i (by rw [List.size_toArray]; exact hi)]
      have := (List.getElem?_eq_some_iff.1 hy).2
      simpa using this
    have he : (((putCells id 0 F cur).toList.take (l.length * 3)).drop (i * 3)).take 3 = enc3 y := by
      apply List.ext_getElem?
      intro m
      by_cases hm : m < 3
      · rw [List.getElem?_take_of_lt hm, List.getElem?_drop, List.getElem?_take_of_lt (by omega), Array.getElem?_toList, hget _ (by omega), hF _ (by omega), show (i * 3 + m) / 3 = i by omega, show (i * 3 + m) % 3 = m by omega, hdy]
        have hm' : m < (enc3 y).length := hm
        rw [List.getElem?_eq_getElem hm', getElem!_pos (enc3 y) m hm']
      · rw [List.getElem?_eq_none (by rw [List.length_take]; omega), List.getElem?_eq_none (by show 3 ≤ m; omega)]
    show RC O' w2 (.pair (.int .i64) (.pair (.int .i64) (.int .i64))) y _
    refine cast (congrArg (RC O' w2 (.pair (.int .i64) (.pair (.int .i64) (.int .i64))) y) he.symm) ?_
    exact ⟨[_], [_, _], rfl, rfl, [_], [_], rfl, rfl, rfl⟩
  · intro k hk hne
    rw [hrow, Array.getElem?_append_left (by simpa using hk), Array.getElem?_modify, if_neg (fun e => hne e.symm)]
  · rw [hrow]; simp
end Go.Proofs.Ytbaikphpohdmoaa.Ev
