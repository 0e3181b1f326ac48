/- Literals. -/
import Derived.Test.YtibdnfknokkadaaDoorEvOpG
set_option linter.unusedVariables false
set_option linter.unusedSimpArgs false
namespace Go.Proofs.YtibdnfknokkadaaDoor.Ev
open Go Go.RowKit
variable {X : Nat → Prop}

section
variable {R : Type} {w : World} {ρ : Rho} {base : Nat} {h : List HE} {P : Program} {T : Tab}
theorem zip_fold (off : Nat) : ∀ (l : List Value) (k : Nat) (cs : Array Value), off + k + l.length ≤ cs.size →
    ((l.zipIdx k).foldl (fun cs (x : Value × Nat) => cs.setIfInBounds (off + x.2) x.1) cs).size = cs.size ∧
    ∀ q, ((l.zipIdx k).foldl (fun cs (x : Value × Nat) => cs.setIfInBounds (off + x.2) x.1) cs)[q]? = if q < off + k then cs[q]? else if q < off + k + l.length then l[q - (off + k)]? else cs[q]?
  | [], k, cs, hl => ⟨rfl, fun q => by
      by_cases a1 : q < off + k
      · rw [if_pos a1]; rfl
      · rw [if_neg a1, if_neg (by simpa using a1)]; rfl⟩
  | c :: r, k, cs, hl => by
    simp only [List.length_cons] at hl
    obtain ⟨h1, h2⟩ := zip_fold off r (k + 1) (cs.setIfInBounds (off + k) c) (by simp; omega)
    rw [List.zipIdx_cons]
    simp only [List.foldl_cons]
    refine ⟨by rw [h1]; simp, fun q => ?_⟩
    rw [h2 q, List.length_cons]
    by_cases a1 : q < off + k
    · rw [if_pos a1, if_pos (by omega), Array.getElem?_setIfInBounds_ne (by omega)]
    · rw [if_neg a1]
      by_cases a2 : q = off + k
      · subst a2
        rw [if_pos (by omega), if_pos (by omega), Array.getElem?_setIfInBounds_self_of_lt (by omega)]
        simp
      · rw [if_neg (by omega)]
        by_cases a3 : q < off + (k + 1) + r.length
        · rw [if_pos a3, if_pos (by omega)]
          have : q - (off + k) = (q - (off + (k + 1))) + 1 := by omega
          rw [this, List.getElem?_cons_succ]
        · rw [if_neg a3, if_neg (by omega), Array.getElem?_setIfInBounds_ne (by omega)]
theorem zip_fold_list (off : Nat) (vs : Array Value) (cs : Array Value) (hl : off + vs.size ≤ cs.size) :
    (vs.zipIdx.foldl (fun cs (x : Value × Nat) => cs.setIfInBounds (off + x.2) x.1) cs).toList = cs.toList.take off ++ vs.toList ++ cs.toList.drop (off + vs.toList.length) := by
  rw [← Array.foldl_toList, Array.toList_zipIdx]
  obtain ⟨h1, h2⟩ := zip_fold off vs.toList 0 cs (by simpa using hl)
  apply List.ext_getElem?
  intro q
  rw [Array.getElem?_toList, h2 q, splice_get _ _ _ _ (by simpa using hl)]
  simp only [Nat.add_zero, Array.getElem?_toList]
theorem fill_cons {place : Nat → Option (Nat × Nat)} {cs : Array Value} {i off sz : Nat} {v : Value} {r : List (Nat × Value)} (hp : place i = some (off, sz)) (hs : v.cells.size = sz) (hl : off + sz ≤ cs.size) :
    Instr.fill place cs ((i, v) :: r) = Instr.fill place (v.cells.zipIdx.foldl (fun cs (x : Value × Nat) => cs.setIfInBounds (off + x.2) x.1) cs) r := by
  have hc : (decide (v.cells.size ≠ sz) || decide (off + v.cells.size > cs.size)) = false := by
    simp only [Bool.or_eq_false_iff, decide_eq_false_iff_not]
    exact ⟨by simp [hs], by omega⟩
  simp only [Instr.fill, hp]
  have hc' : ¬ ((v.cells.size ≠ sz) || (off + v.cells.size > cs.size)) = true := by
    simp [hs]; omega
  split
  · rename_i h1; exact absurd h1 (by simpa using hc')
  · rfl

/-- A literal's row. -/
theorem fill_lit (hh : HeapR X w ρ base h) {τ : Ty} {A : Operand → AV} {B : Operand → Value} (hAB : ∀ x, VR X w ρ h (A x) (B x)) : ∀ (ps : List (Nat × Operand)) (i : Nat) (l : List τ.den) (cs : Array Value), litL τ h A ps i = some l → (i + ps.length) * τ.size ≤ cs.size →
    ∃ news : List Value, news.length = l.length * τ.size ∧ l.length = ps.length ∧ VRs X w ρ h (litCells A ps) news ∧
      (∀ O', (∀ b, O' b → owned X ρ b) → (∀ j g, AV.own j g ∈ litCells A ps → ∀ r n, ρ[j]? = some r → r.block = some n → ¬ O' n) → ∀ j z, l[j]? = some z → RC O' w τ z ((news.drop (j * τ.size)).take τ.size)) ∧
      ∃ cs', Instr.fill (fun i => some (i * τ.size, τ.size)) cs (ps.map fun p => (p.1, B p.2)) = some cs' ∧ cs'.toList = cs.toList.take (i * τ.size) ++ news ++ cs.toList.drop (i * τ.size + news.length)
  | [], i, l, cs, hl, _ => by
    simp only [litL, Option.some.injEq] at hl
    subst hl
    exact ⟨[], by simp, rfl, .nil _ _ _, by simp, cs, rfl, by simp⟩
  | (j, x) :: r, i, l, cs, hl, hle => by
    simp only [litL] at hl
    obtain ⟨hc, hl'⟩ := cond_some hl
    rw [Bool.and_eq_true] at hc
    have hji := Nat.eq_of_beq_eq_true hc.1
    subst hji
    split at hl'
    · rename_i y hy
      split at hl'
      · rename_i l' hl''
        simp only [Option.some.injEq] at hl'
        subst hl'
        obtain ⟨hvs, hone⟩ := flat_sound hc.2 (hAB x)
        have hclen : (A x).flat.length = τ.size := by
          obtain ⟨h1, _⟩ := closeAll_sound hh (O' := fun _ => False) (fun _ h => h.elim) hy (fun _ _ _ _ _ _ _ h => h) hvs
          rw [hvs.1, RC_length τ _ _ h1]
        have hvl : (B x).cells.toList.length = τ.size := by rw [← hvs.1, hclen]
        have hvl' : (B x).cells.size = τ.size := by rw [← Array.length_toList]; exact hvl
        simp only [List.length_cons] at hle
        have hfit : j * τ.size + τ.size ≤ cs.size := by
          have : (j + 1) * τ.size ≤ (j + (r.length + 1)) * τ.size := Nat.mul_le_mul_right _ (by omega)
          rw [Nat.succ_mul] at this
          omega
        have hzf := zip_fold_list (j * τ.size) (B x).cells cs (by rw [hvl']; exact hfit)
        have hzs : ((B x).cells.zipIdx.foldl (fun cs (x : Value × Nat) => cs.setIfInBounds (j * τ.size + x.2) x.1) cs).size = cs.size := by
          rw [← Array.length_toList, hzf, splice_length _ _ _ (by rw [hvl, Array.length_toList]; exact hfit), Array.length_toList]
        obtain ⟨news, n1, n2, n3, n4, cs', n5, n6⟩ := fill_lit hh hAB r (j + 1) l' _ hl'' (by rw [hzs]; rw [show j + 1 + r.length = j + (r.length + 1) by omega]; exact hle)
        refine ⟨(B x).cells.toList ++ news, by rw [List.length_append, hvl, n1, List.length_cons, Nat.succ_mul]; omega, by simp [n2], hvs.append n3, fun O' hO hk => ?_, cs', ?_, ?_⟩
        · intro q z hz
          obtain ⟨h1, _⟩ := closeAll_sound hh hO hy (fun a b hm => hk a b (by simp only [litCells, List.mem_append]; exact .inl hm)) hvs
          cases q with
          | zero =>
            simp at hz
            subst hz
            rw [Nat.zero_mul, List.drop_zero, ← hvl, List.take_left']
            · exact h1
            · rfl
          | succ q =>
            have := n4 O' hO (fun a b hm => hk a b (by simp only [litCells, List.mem_append]; exact .inr hm)) q z (by simpa using hz)
            rw [Nat.succ_mul, Nat.add_comm, ← List.drop_drop, ← hvl, List.drop_left', hvl]
            · exact this
            · rfl
        · rw [List.map_cons, fill_cons (off := j * τ.size) (sz := τ.size) rfl hvl' hfit]
          exact n5
        · rw [n6, hzf]
          have hpre : (cs.toList.take (j * τ.size)).length = j * τ.size := by rw [List.length_take, Array.length_toList]; omega
          have e1 : (cs.toList.take (j * τ.size) ++ (B x).cells.toList ++ cs.toList.drop (j * τ.size + (B x).cells.toList.length)).take ((j + 1) * τ.size) = cs.toList.take (j * τ.size) ++ (B x).cells.toList := by
            rw [List.take_append_of_le_length (by rw [List.length_append, hpre, hvl, Nat.succ_mul]; omega), List.take_of_length_le (by rw [List.length_append, hpre, hvl, Nat.succ_mul]; omega)]
          have e2 : (cs.toList.take (j * τ.size) ++ (B x).cells.toList ++ cs.toList.drop (j * τ.size + (B x).cells.toList.length)).drop ((j + 1) * τ.size + news.length) = cs.toList.drop (j * τ.size + ((B x).cells.toList ++ news).length) := by
            rw [List.drop_append, List.drop_eq_nil_of_le (by rw [List.length_append, hpre, hvl, Nat.succ_mul]; omega), List.nil_append, List.drop_drop]
            congr 1
            rw [List.length_append, List.length_append, hpre, hvl, Nat.succ_mul]
            omega
          rw [e1, e2]
          simp only [List.append_assoc]
      · simp at hl'
    · simp at hl'
theorem lit_now {τ : Ty} {A : Operand → AV} : ∀ (ps : List (Nat × Operand)) (i : Nat) (l : List τ.den), litL τ h A ps i = some l → ∀ j g, AV.own j g ∈ litCells A ps → Now h j g
  | [], _, _, _, j, g, hm => by simp [litCells] at hm
  | (j, x) :: r, i, l, hl, q, g, hm => by
    simp only [litL] at hl
    obtain ⟨hc, hl'⟩ := cond_some hl
    split at hl'
    · rename_i y hy
      split at hl'
      · rename_i l' hl''
        simp only [litCells, List.mem_append] at hm
        rcases hm with hm | hm
        · exact closeAll_now hy q g hm
        · exact lit_now r (i + 1) l' hl'' q g hm
      · simp at hl'
    · simp at hl'
theorem buildSlice_ops (hT : TabOK P T) (hh : HeapR X w ρ base h) (hb : base ≤ w.heap.size) {A : Operand → AV} {B : Operand → Value} (hAB : ∀ x, VR X w ρ h (A x) (B x)) {t e : TypeId} {j : Inf} {τ : Ty} (he : elemInf T t = some (e, j, τ)) {n nid : Nat} {ps : Array (Nat × Operand)} {K : OK R} {r : R}
    (hk : (bif fresh h nid && Nat.ble n 1000 && Nat.beq n ps.toList.length && Nat.ble j.size 1000 then (match litL τ h A ps.toList 0 with
      | some l => K (.own nid 1) (freeze (litCells A ps.toList) ++ [(nid, .lst τ e false 1 l)])
      | none => none) else none) = some r) :
    OpS X base w ρ h ((do pure (Next.value (← Instr.buildSlice t n (ps.map fun (i, x) => (i, B x)))) : Sem Next).run P w) K r := by
  obtain ⟨hc, hk'⟩ := cond_some hk
  simp only [Bool.and_eq_true] at hc
  obtain ⟨⟨⟨hf, hc1⟩, hc2⟩, hc3⟩ := hc
  have hn := Nat.le_of_ble_eq_true hc1
  have hnl := Nat.eq_of_beq_eq_true hc2
  have hjs := Nat.le_of_ble_eq_true hc3
  split at hk'
  · rename_i l hl
    obtain ⟨hu, hj, hτ, hsz, hby, hmk⟩ := elemInf_some hT he
    obtain ⟨ti, hti, e1, e2, e3⟩ := hT.info e j hj
    have hzs := hT.zsize e j hj
    have hmul : n * j.size ≤ 1000 * 1000 := Nat.mul_le_mul hn hjs
    let z0 : Array Value := if n * j.size = 0 then #[] else j.zero.cells
    let row : Array Value := (Array.range (n * j.size)).map (z0[· % z0.size]!)
    have hrow : row.size = n * j.size := by simp [row]
    obtain ⟨news, n1, n2, n3, n4, cs', n5, n6⟩ := fill_lit hh hAB ps.toList 0 l row hl (by rw [hrow, Nat.zero_add, ← hnl, hsz]; exact Nat.le_refl _)
    have hcs' : cs'.toList = news := by
      rw [n6, Nat.zero_mul, List.take_zero, List.nil_append, Nat.zero_add, List.drop_eq_nil_of_le, List.append_nil]
      rw [n1, n2, Array.length_toList, hrow, ← hnl, hsz]; exact Nat.le_refl _
    have hrun : (Instr.buildSlice t n (ps.map fun (i, x) => (i, B x))).run P w = .ok (.slice (some ⟨w.heap.size, 0, none⟩) n n) (w.alloc (.cells cs' e)) := by
      have hps : (ps.map fun (i, x) => (i, B x)).toList = ps.toList.map fun p => (p.1, B p.2) := by rw [Array.toList_map]
      have hlarge : ¬ (n * j.size > 2 ^ 24) := by omega
      have hfill : Instr.fill (fun i => some (i * j.size, j.size)) row (ps.map fun (i, x) => (i, B x)).toList = some cs' := by rw [hps, ← hsz]; exact n5
      simp only [Instr.buildSlice, Sem.run_bind, run_underlying hu, Result.andThen_ok, run_sizeOf hT hj, if_neg hlarge]
      by_cases h0 : n * j.size = 0
      · have hr0 : (Array.range (n * j.size)).map (fun x => (#[] : Array Value)[x % (#[] : Array Value).size]!) = row := by simp [row, z0, h0]
        rw [if_pos h0]
        simp only [Sem.run_bind, Sem.run_pure, Result.andThen_ok]
        rw [hr0, hfill]
        simp [newRow]
      · have hr0 : (Array.range (n * j.size)).map (fun x => j.zero.cells[x % j.zero.cells.size]!) = row := by simp [row, z0, h0]
        rw [if_neg h0]
        simp only [Sem.run_bind, Sem.run_pure, run_zeroValue hT hj, Result.andThen_ok]
        rw [hr0, hfill]
        simp [newRow]
    -- what is given up, then the new list
    have hnow : ∀ i g, AV.own i g ∈ litCells A ps.toList → Now h i g := lit_now ps.toList 0 l hl
    obtain ⟨ρ1, hh1, f1, hsame, hd⟩ := freeze_sound (litCells A ps.toList) hh hb hnow
    have hno := freeze_no hh (fun i hi => (hsame i hi).1) hd
    have hnid : ∀ g, AV.own nid g ∉ litCells A ps.toList := fun g hm => by
      rcases hnow nid g hm with ⟨t, ty, nl, l, he⟩ | he
      · rw [fresh_dead hf] at he; simp at he
      · rw [fresh_dead hf] at he; simp at he
    have hf1 : fresh (applyU (freeze (litCells A ps.toList)) h) nid = true := by
      have e := (hsame nid hnid).2
      rw [fresh_dead hf] at e
      simp only [fresh, e]
    have hown1 : ∀ b, owned X ρ1 b → owned X ρ b := fun b ho => f1.own b (by
      rcases ho with hX | ⟨r, hrm, hrn⟩
      · have := hh.ext b hX; omega
      obtain ⟨q, hq⟩ := List.mem_iff_getElem?.1 hrm
      exact (hh1.lo q r b hq hrn).2) ho
    have hll : l.length = n := by rw [n2, hnl]
    obtain ⟨ρ2, k1, k2, k3, k4⟩ := new_lst (nl := false) (v := .slice (some ⟨w.heap.size, 0, none⟩) n n) (xs := cs'.toList) (w' := w.alloc (.cells cs' e)) hh1 hb hf1 (by rw [alloc_size]; omega) (fun b hb' => alloc_heap w _ b hb') ((Below.refl _ _).alloc hb _)
      (fun k hk => by have hk := vblock_own hk; simp only [Value.ownBlock, Option.some.injEq] at hk; rw [alloc_size]; omega) ⟨_, _, _, rfl⟩ (by
        rw [hll]
        exact rowOf.mk (e := e) hmk <| World.ownsRow_lit w cs' n hb (by simp only [maxLen]; omega) (by rw [← Array.length_toList, hcs', n1, hll])) (by simp) (fun i y hy => by rw [hcs']; exact n4 (owned X ρ1) hown1 hno i y hy)
    refine OpS.of _ hrun hk' ?_
    rw [applyU_append]
    exact ⟨ρ2, k1, k2, f1.trans k3, k4⟩
  · simp at hk'

theorem fill_row {A : Operand → AV} {B : Operand → Value} (hAB : ∀ x, VR X w ρ h (A x) (B x)) {sz : Nat} : ∀ (ps : List (Nat × Operand)) (i : Nat) (l : List AV) (cs : Array Value), rowL sz A ps i = some l → (i + ps.length) * sz ≤ cs.size →
    ∃ news : List Value, news.length = ps.length * sz ∧ VRs X w ρ h l news ∧
      ∃ cs', Instr.fill (fun i => some (i * sz, sz)) cs (ps.map fun p => (p.1, B p.2)) = some cs' ∧ cs'.toList = cs.toList.take (i * sz) ++ news ++ cs.toList.drop (i * sz + news.length)
  | [], i, l, cs, hl, _ => by
    simp only [rowL, Option.some.injEq] at hl
    subst hl
    exact ⟨[], by simp, .nil _ _ _, cs, rfl, by simp⟩
  | (j, x) :: r, i, l, cs, hl, hle => by
    simp only [rowL] at hl
    obtain ⟨hc, hl'⟩ := cond_some hl
    simp only [Bool.and_eq_true] at hc
    have hji := Nat.eq_of_beq_eq_true hc.1.1
    have hclen := Nat.eq_of_beq_eq_true hc.1.2
    subst hji
    split at hl'
    · rename_i l' hl''
      simp only [Option.some.injEq] at hl'
      subst hl'
      obtain ⟨hvs, hone⟩ := flat_sound hc.2 (hAB x)
      have hvl : (B x).cells.toList.length = sz := by rw [← hvs.1, hclen]
      have hvl' : (B x).cells.size = sz := by rw [← Array.length_toList]; exact hvl
      simp only [List.length_cons] at hle
      have hfit : j * sz + sz ≤ cs.size := by
        have : (j + 1) * sz ≤ (j + (r.length + 1)) * sz := Nat.mul_le_mul_right _ (by omega)
        rw [Nat.succ_mul] at this
        omega
      have hzf := zip_fold_list (j * sz) (B x).cells cs (by rw [hvl']; exact hfit)
      have hzs : ((B x).cells.zipIdx.foldl (fun cs (x : Value × Nat) => cs.setIfInBounds (j * sz + x.2) x.1) cs).size = cs.size := by
        rw [← Array.length_toList, hzf, splice_length _ _ _ (by rw [hvl, Array.length_toList]; exact hfit), Array.length_toList]
      obtain ⟨news, n1, n3, cs', n5, n6⟩ := fill_row hAB r (j + 1) l' _ hl'' (by rw [hzs]; rw [show j + 1 + r.length = j + (r.length + 1) by omega]; exact hle)
      refine ⟨(B x).cells.toList ++ news, by rw [List.length_append, hvl, n1, List.length_cons, Nat.succ_mul]; omega, hvs.append n3, cs', ?_, ?_⟩
      · rw [List.map_cons, fill_cons (off := j * sz) (sz := sz) rfl hvl' hfit]
        exact n5
      · rw [n6, hzf]
        have hpre : (cs.toList.take (j * sz)).length = j * sz := by rw [List.length_take, Array.length_toList]; omega
        have e1 : (cs.toList.take (j * sz) ++ (B x).cells.toList ++ cs.toList.drop (j * sz + (B x).cells.toList.length)).take ((j + 1) * sz) = cs.toList.take (j * sz) ++ (B x).cells.toList := by
          rw [List.take_append_of_le_length (by rw [List.length_append, hpre, hvl, Nat.succ_mul]; omega), List.take_of_length_le (by rw [List.length_append, hpre, hvl, Nat.succ_mul]; omega)]
        have e2 : (cs.toList.take (j * sz) ++ (B x).cells.toList ++ cs.toList.drop (j * sz + (B x).cells.toList.length)).drop ((j + 1) * sz + news.length) = cs.toList.drop (j * sz + ((B x).cells.toList ++ news).length) := by
          rw [List.drop_append, List.drop_eq_nil_of_le (by rw [List.length_append, hpre, hvl, Nat.succ_mul]; omega), List.nil_append, List.drop_drop]
          congr 1
          rw [List.length_append, List.length_append, hpre, hvl, Nat.succ_mul]
          omega
        rw [e1, e2]
        simp only [List.append_assoc]
    · simp at hl'
theorem buildRow_ops (hT : TabOK P T) (hh : HeapR X w ρ base h) (hb : base ≤ w.heap.size) {A : Operand → AV} {B : Operand → Value} (hAB : ∀ x, VR X w ρ h (A x) (B x)) {t e : TypeId} {j : Inf} (he : elemRow T t = some (e, j)) {n nid : Nat} {ps : Array (Nat × Operand)} {K : OK R} {r : R}
    (hk : (bif fresh h nid && Nat.ble n 1000 && Nat.beq n ps.toList.length && Nat.ble j.size 1000 then (match rowL j.size A ps.toList 0 with
      | some l => K (.bs nid 0 n n) [(nid, .blk l)]
      | none => none) else none) = some r) :
    OpS X base w ρ h ((do pure (Next.value (← Instr.buildSlice t n (ps.map fun (i, x) => (i, B x)))) : Sem Next).run P w) K r := by
  obtain ⟨hc, hk'⟩ := cond_some hk
  simp only [Bool.and_eq_true] at hc
  obtain ⟨⟨⟨hf, hc1⟩, hc2⟩, hc3⟩ := hc
  have hn := Nat.le_of_ble_eq_true hc1
  have hnl := Nat.eq_of_beq_eq_true hc2
  have hjs := Nat.le_of_ble_eq_true hc3
  obtain ⟨hu, hj⟩ : P.underlying t = some (.slice e) ∧ T e = some j := by
    unfold elemRow at he
    split at he
    · rename_i i hi
      have hu := hT.und t i hi
      split at he
      · rename_i e' hd
        rw [hd] at hu
        split at he
        · rename_i j' hj
          simp only [Option.some.injEq, Prod.mk.injEq] at he
          obtain ⟨rfl, rfl⟩ := he
          exact ⟨hu, hj⟩
        · cases he
      · cases he
    · cases he
  split at hk'
  · rename_i l hl
    have hmul : n * j.size ≤ 1000 * 1000 := Nat.mul_le_mul hn hjs
    let z0 : Array Value := if n * j.size = 0 then #[] else j.zero.cells
    let row : Array Value := (Array.range (n * j.size)).map (z0[· % z0.size]!)
    have hrow : row.size = n * j.size := by simp [row]
    obtain ⟨news, n1, n3, cs', n5, n6⟩ := fill_row hAB ps.toList 0 l row hl (by rw [hrow, Nat.zero_add, ← hnl]; exact Nat.le_refl _)
    have hcs' : cs'.toList = news := by
      rw [n6, Nat.zero_mul, List.take_zero, List.nil_append, Nat.zero_add, List.drop_eq_nil_of_le, List.append_nil]
      rw [n1, Array.length_toList, hrow, ← hnl]; exact Nat.le_refl _
    have hrun : (Instr.buildSlice t n (ps.map fun (i, x) => (i, B x))).run P w = .ok (.slice (some ⟨w.heap.size, 0, none⟩) n n) (w.alloc (.cells cs' e)) := by
      have hps : (ps.map fun (i, x) => (i, B x)).toList = ps.toList.map fun p => (p.1, B p.2) := by rw [Array.toList_map]
      have hlarge : ¬ (n * j.size > 2 ^ 24) := by omega
      have hfill : Instr.fill (fun i => some (i * j.size, j.size)) row (ps.map fun (i, x) => (i, B x)).toList = some cs' := by rw [hps]; exact n5
      simp only [Instr.buildSlice, Sem.run_bind, run_underlying hu, Result.andThen_ok, run_sizeOf hT hj, if_neg hlarge]
      by_cases h0 : n * j.size = 0
      · have hr0 : (Array.range (n * j.size)).map (fun x => (#[] : Array Value)[x % (#[] : Array Value).size]!) = row := by simp [row, z0, h0]
        rw [if_pos h0]
        simp only [Sem.run_bind, Sem.run_pure, Result.andThen_ok]
        rw [hr0, hfill]
        simp [newRow]
      · have hr0 : (Array.range (n * j.size)).map (fun x => j.zero.cells[x % j.zero.cells.size]!) = row := by simp [row, z0, h0]
        rw [if_neg h0]
        simp only [Sem.run_bind, Sem.run_pure, run_zeroValue hT hj, Result.andThen_ok]
        rw [hr0, hfill]
        simp [newRow]
    obtain ⟨ρ', h1, h2, h3, h4⟩ := new_blk hh hb hf (cs := l) (cells := cs') (e := e) (by rw [hcs']; exact n3)
    cases h2 with
    | ptr hr => exact OpS.of _ hrun hk' ⟨ρ', h1, .bs hr, h3, h4⟩
  · simp at hk'

theorem run_mapM {α β : Type} (f : α → Sem β) (g : α → β) (xs : Array α) (hf : ∀ x ∈ xs.toList, ∀ w : World, (f x).run P w = .ok (g x) w) : (xs.mapM f).run P w = .ok (xs.map g) w := by
  have key : ∀ l : List α, (∀ x ∈ l, ∀ w : World, (f x).run P w = .ok (g x) w) → ∀ w : World, (l.mapM f).run P w = .ok (l.map g) w := by
    intro l
    induction l with
    | nil => intro _ w; rfl
    | cons x l ih =>
      intro h w
      rw [List.mapM_cons]
      simp only [Sem.run_bind, h x (by simp), Result.andThen_ok, ih (fun y hy => h y (List.mem_cons_of_mem _ hy)), Sem.run_pure, List.map_cons]
  rw [Array.mapM_eq_mapM_toList, Sem.run_map, key _ hf]
  simp only [Result.andThen_ok]
  congr 1
  apply Array.ext'
  simp
theorem partsOf_sound {A : Operand → AV} {B : Operand → Value} {i : Inf} (hAB : ∀ x, VR X w ρ h (A x) (B x)) {place : Nat → Option (Nat × Nat)}
    (hpl : ∀ j off sz x r l, partsOf T i A ((j, x) :: r) = some l → l = (off, sz, A x) :: l.tail → place j = some (off, sz)) :
    ∀ (ps : List (Nat × Operand)) (l : List (Nat × Nat × AV)) (cs : List AV) (cur : Array Value) (cs' : List AV), partsOf T i A ps = some l → spliceAll l cs = some cs' → VRs X w ρ h cs cur.toList →
      ∃ cur', Instr.fill place cur (ps.map fun p => (p.1, B p.2)) = some cur' ∧ VRs X w ρ h cs' cur'.toList
  | [], l, cs, cur, cs', hl, hs, hv => by
    simp only [partsOf, Option.some.injEq] at hl
    subst hl
    simp only [spliceAll, Option.some.injEq] at hs
    subst hs
    exact ⟨cur, rfl, hv⟩
  | (j, x) :: r, l, cs, cur, cs', hl, hs, hv => by
    have hl0 := hl
    have hex : ∃ off sz l', l = (off, sz, A x) :: l' ∧ partsOf T i A r = some l' := by
      simp only [partsOf] at hl
      split at hl
      · split at hl
        · split at hl
          · split at hl
            · rename_i l' hl'
              simp only [Option.some.injEq] at hl
              exact ⟨_, _, l', hl.symm, hl'⟩
            · simp at hl
          · simp at hl
        · simp at hl
      · split at hl
        · split at hl
          · rename_i l' hl'
            simp only [Option.some.injEq] at hl
            exact ⟨_, _, l', hl.symm, hl'⟩
          · simp at hl
        · simp at hl
      · simp at hl
    obtain ⟨off, sz, l', rfl, hl'⟩ := hex
    have hp := hpl j off sz x r _ hl0 rfl
    simp only [spliceAll] at hs
    have h2 := cond_some hs
    clear hs
    obtain ⟨hc, hs⟩ := h2
    simp only [Bool.and_eq_true] at hc
    obtain ⟨⟨hc1, hc2⟩, hc3⟩ := hc
    have hsz := Nat.eq_of_beq_eq_true hc1
    have hle := Nat.le_of_ble_eq_true hc2
    obtain ⟨hvs, hone⟩ := flat_sound hc3 (hAB x)
    have hvl : (B x).cells.size = sz := by rw [← Array.length_toList, ← hvs.1]; exact hsz
    have hcl : cs.length = cur.size := by rw [hv.1, Array.length_toList]
    rw [List.map_cons, fill_cons hp hvl (by omega)]
    refine partsOf_sound hAB hpl r l' _ _ cs' hl' hs ?_
    rw [zip_fold_list off _ cur (by rw [hvl]; omega)]
    have := hv.splice hvs off
    rw [hsz] at this
    exact this
theorem build_ops (hT : TabOK P T) (hh : HeapR X w ρ base h) {A : Operand → AV} {B : Operand → Value} (hAB : ∀ x, VR X w ρ h (A x) (B x)) {t : TypeId} {i : Inf} (ht : T t = some i) {ps : Array (Nat × Operand)} {K : OK R} {r : R}
    (hfs : fieldsOK T i.desc = true)
    (hk : (match partsOf T i A ps.toList with
      | some l => match spliceAll l (ofVal i.zero).flat with
        | some cs => K (.agg cs) []
        | none => none
      | none => none) = some r) : OpS X base w ρ h ((do pure (Next.value (← Instr.build t (ps.map fun (i, x) => (i, B x)))) : Sem Next).run P w) K r := by
  split at hk
  · rename_i l hl
    split at hk
    · rename_i cs hcs
      have hps : (ps.map fun (i, x) => (i, B x)).toList = ps.toList.map fun p => (p.1, B p.2) := by rw [Array.toList_map]
      have hu := hT.und t i ht
      have hz : VRs X w ρ h (ofVal i.zero).flat i.zero.cells.toList := ofVal_flat _
      cases hd : i.desc with
      | struct fs =>
        rw [hd] at hu hfs
        let places : Array (Nat × Nat) := fs.map fun f => (f.offset, match T f.type with | some k => k.size | none => 0)
        obtain ⟨cur', h1, h2⟩ := partsOf_sound (i := i) hAB (place := fun j => places[j]?) (fun j off sz x r l hl he => by
          simp only [partsOf, hd] at hl
          split at hl
          · rename_i fd hfd
            split at hl
            · rename_i k hk
              split at hl
              · simp only [Option.some.injEq] at hl
                rw [← hl] at he
                simp only [List.cons.injEq, Prod.mk.injEq] at he
                obtain ⟨⟨rfl, rfl, _⟩, _⟩ := he
                simp [places, hfd, hk]
              · simp at hl
            · simp at hl
          · simp at hl) ps.toList l _ _ cs hl hcs hz
        refine OpS.of (av := .agg cs) (u := []) _ (v := .agg cur') (w' := w) ?_ hk ⟨ρ, hh, .agg (by rw [h2.1, Array.length_toList]) (fun i c v hc hv => h2.2 i c v hc (by simpa using hv)), .refl _ _ _, Below.refl _ _⟩
        have hm := run_mapM (P := P) (w := w) (fun f : Field => (do pure (f.offset, ← sizeOf f.type) : Sem (Nat × Nat))) (fun f => (f.offset, match T f.type with | some k => k.size | none => 0)) fs (fun f hf w => by
          have : ∃ k, T f.type = some k := by
            have := List.all_eq_true.1 hfs f hf
            exact Option.isSome_iff_exists.1 this
          obtain ⟨k, hk⟩ := this
          simp only [Sem.run_bind, run_sizeOf hT hk, Result.andThen_ok, Sem.run_pure, hk])
        simp only [Instr.build, Sem.run_bind, run_zeroValue hT ht, run_underlying hu, Result.andThen_ok, hm]
        rw [hps, h1]
        rfl
      | array n e =>
        rw [hd] at hu hfs
        have : ∃ k, T e = some k := Option.isSome_iff_exists.1 hfs
        obtain ⟨k, hk'⟩ := this
        obtain ⟨cur', h1, h2⟩ := partsOf_sound (i := i) hAB (place := fun j => some (j * k.size, k.size)) (fun j off sz x r l hl he => by
          simp only [partsOf, hd, hk'] at hl
          split at hl
          · simp only [Option.some.injEq] at hl
            rw [← hl] at he
            simp only [List.cons.injEq, Prod.mk.injEq] at he
            obtain ⟨⟨rfl, rfl, _⟩, _⟩ := he
            rfl
          · simp at hl) ps.toList l _ _ cs hl hcs hz
        refine OpS.of (av := .agg cs) (u := []) _ (v := .agg cur') (w' := w) ?_ hk ⟨ρ, hh, .agg (by rw [h2.1, Array.length_toList]) (fun i c v hc hv => h2.2 i c v hc (by simpa using hv)), .refl _ _ _, Below.refl _ _⟩
        simp only [Instr.build, Sem.run_bind, run_zeroValue hT ht, run_underlying hu, Result.andThen_ok, run_sizeOf hT hk']
        rw [hps, h1]
        rfl
      | _ => rw [hd] at hfs; simp [fieldsOK] at hfs
    · simp at hk
  · simp at hk
end
end Go.Proofs.YtibdnfknokkadaaDoor.Ev
