/- New variables, new slices, appends. -/
import Derived.Test.YtibdnfknokkadaaDoorEvOpE
set_option linter.unusedVariables false
set_option linter.unusedSimpArgs false
namespace Go.Proofs.YtibdnfknokkadaaDoor.Ev
open Go Go.RowKit
variable {X : Nat → Prop}

section
variable {R : Type} {w : World} {ρ : Rho} {base : Nat} {h : List HE} {P : Program} {T : Tab}
theorem OpS.of (s : Sem Value) {v : Value} {w' : World} {av : AV} {u : Upd} {K : OK R} {r : R} (hs : s.run P w = .ok v w') (hk : K av u = some r)
    (hd : ∃ ρ', HeapR X w' ρ' base (applyU u h) ∧ VR X w' ρ' (applyU u h) av v ∧ Fwd X w ρ h w' ρ' (applyU u h) ∧ Below base w w') : OpS X base w ρ h ((do pure (Next.value (← s)) : Sem Next).run P w) K r :=
  ⟨av, u, v, w', hk, .inl (run_value s hs), ⟨hd⟩⟩
theorem alloc_heap (w : World) (o : Obj) (k : Nat) (hk : k < w.heap.size) : (w.alloc o).heap[k]? = w.heap[k]? := Below.heap_alloc w o k hk
theorem alloc_size (w : World) (o : Obj) : (w.alloc o).heap.size = w.heap.size + 1 := by simp
/-- A new variable. -/
theorem new_blk (hh : HeapR X w ρ base h) (hb : base ≤ w.heap.size) {nid : Nat} (hf : fresh h nid = true) {cs : List AV} {cells : Array Value} {e : TypeId} (hv : VRs X w ρ h cs cells.toList) :
    ∃ ρ', HeapR X (w.alloc (.cells cells e)) ρ' base (applyU [(nid, .blk cs)] h) ∧ VR X (w.alloc (.cells cells e)) ρ' (applyU [(nid, .blk cs)] h) (.ptr nid 0) (.pointer (some ⟨w.heap.size, 0, none⟩)) ∧
      Fwd X w ρ h (w.alloc (.cells cells e)) ρ' (applyU [(nid, .blk cs)] h) ∧ Below base w (w.alloc (.cells cells e)) := by
  obtain ⟨h1, f, h2, h3⟩ := set_entry hh (fresh_dead hf) (fresh_rho hh hf) (e := .blk cs) (rl := .b w.heap.size) (w' := w.alloc (.cells cells e)) hb (by rw [alloc_size]; omega) (fun b hb' _ => alloc_heap w _ b hb')
    (fun n hn => by simp only [RL.block, Option.some.injEq] at hn; subst hn; rw [alloc_size]; exact ⟨.inr (Nat.le_refl _), by omega⟩) (by simp [HE.ver]) (fun _ _ _ _ _ he => by cases he) (fun _ he => by cases he)
    (fun f => .blk (cur := cells) (ty := e) (heap_alloc_new w _) (by rw [← Array.length_toList]; exact hv.1.symm) (fun i c v hc hv' => VR_fwd f (hv.2 i c v hc (by simpa using hv'))))
  exact ⟨_, h1, .ptr h3, f, (Below.refl _ _).alloc hb _⟩
theorem alloc_ops (hT : TabOK P T) (hh : HeapR X w ρ base h) (hb : base ≤ w.heap.size) {e : TypeId} {i : Inf} (he : T e = some i) {nid : Nat} {K : OK R} {r : R}
    (hk : (bif fresh h nid then K (.ptr nid 0) [(nid, .blk (ofVal i.zero).flat)] else none) = some r) : OpS X base w ρ h ((do pure (Next.value (← Instr.alloc e true (.tuple #[]))) : Sem Next).run P w) K r := by
  obtain ⟨hf, hk⟩ := cond_some hk
  refine OpS.of _ (w' := w.alloc (.cells i.zero.cells e)) (v := .pointer (some ⟨w.heap.size, 0, none⟩)) ?_ hk (new_blk hh hb hf (ofVal_flat _))
  simp [Instr.alloc, run_zeroValue hT he, newVar, newRow]
theorem box_ops (hh : HeapR X w ρ base h) (hb : base ≤ w.heap.size) {e : TypeId} {nid : Nat} {x : AV} {v : Value} {K : OK R} {r : R} (hv : VR X w ρ h x v)
    (hk : (bif fresh h nid && allOK x.flat then K (.ptr nid 0) [(nid, .blk x.flat)] else none) = some r) : OpS X base w ρ h ((do pure (Next.value (← Instr.box e v)) : Sem Next).run P w) K r := by
  obtain ⟨hf, hk⟩ := cond_some hk
  rw [Bool.and_eq_true] at hf
  refine OpS.of _ (w' := w.alloc (.cells v.cells e)) (v := .pointer (some ⟨w.heap.size, 0, none⟩)) ?_ hk (new_blk hh hb hf.1 (flat_sound hf.2 hv).1)
  simp [Instr.box, newVar, newRow]
/-- A new list. -/
theorem new_lst (hh : HeapR X w ρ base h) (hb : base ≤ w.heap.size) {nid : Nat} (hf : fresh h nid = true) {τ : Ty} {e : TypeId} {nl : Bool} {l : List τ.den} {v : Value} {w' : World} {xs : List Value}
    (hs : w.heap.size ≤ w'.heap.size) (hk : ∀ b, b < w.heap.size → w'.heap[b]? = w.heap[b]?) (hbel : Below base w w') (hfr : ∀ n, vblock v = some n → w.heap.size ≤ n ∧ n < w'.heap.size) (hsl : ∃ a n c, v = .slice a n c)
    (ho : rowOf w' base e τ.size v l.length xs) (hn : v = .slice none 0 0 ↔ (nl && l.isEmpty) = true) (hel : ∀ (i : Nat) (y : τ.den), l[i]? = some y → RC (owned X ρ) w τ y ((xs.drop (i * τ.size)).take τ.size)) :
    ∃ ρ', HeapR X w' ρ' base (applyU [(nid, .lst τ e nl 1 l)] h) ∧ VR X w' ρ' (applyU [(nid, .lst τ e nl 1 l)] h) (.own nid 1) v ∧ Fwd X w ρ h w' ρ' (applyU [(nid, .lst τ e nl 1 l)] h) ∧ Below base w w' := by
  obtain ⟨h1, f, h2, h3⟩ := set_entry hh (fresh_dead hf) (fresh_rho hh hf) (e := .lst τ e nl 1 l) (rl := .s v) (w' := w') hb hs (fun b hb' _ => hk b hb')
    (fun n hn => ⟨.inr (hfr n hn).1, (hfr n hn).2⟩) (by simp [HE.ver]) (fun _ _ _ g _ he => by simp only [HE.lst.injEq] at he; obtain ⟨_, _, _, rfl, _⟩ := he; exact .inl (by simp [HE.ver])) (fun _ he => by cases he)
    (fun f => .lst (Nat.le_refl _) ho hn (fun i y hy => RC_fwd f (hel i y hy)))
  exact ⟨_, h1, .own ⟨_, h2, Nat.le_refl _⟩ (Nat.le_refl _) (fun _ _ _ _ _ => h3) hsl, f, hbel⟩
theorem elemInf_some (hT : TabOK P T) {t e : TypeId} {j : Inf} {τ : Ty} (he : elemInf T t = some (e, j, τ)) : P.underlying t = some (.slice e) ∧ T e = some j ∧ j.ty = some τ ∧ τ.size = j.size ∧ j.bytes ≤ 128 ∧ e < MARK := by
  unfold elemInf at he
  split at he
  · rename_i i hi
    split at he
    · rename_i e' hd
      split at he
      · rename_i j' hj
        split at he
        · rename_i τ' hτ
          have h2 := cond_some he
          clear he
          obtain ⟨hc, he⟩ := h2
          simp only [Bool.and_eq_true] at hc
          simp only [Option.some.injEq, Prod.mk.injEq] at he
          obtain ⟨rfl, rfl, rfl⟩ := he
          exact ⟨by rw [← hd]; exact hT.und t i hi, hj, hτ, Nat.eq_of_beq_eq_true hc.1.1.1, Nat.le_of_ble_eq_true hc.1.2, Nat.le_of_ble_eq_true hc.2⟩
        · simp at he
      · simp at he
    · simp at he
  · simp at he
theorem made_get {z : Array Value} (hz : 0 < z.size) (c i : Nat) (hi : i < c) : ((madeCells z (c * z.size)).toList.drop (i * z.size)).take z.size = z.toList := by
  apply List.ext_getElem?
  intro q
  rw [List.getElem?_take, List.getElem?_drop]
  by_cases hq : q < z.size
  · rw [if_pos hq]
    have hlt : i * z.size + q < c * z.size := by
      have : (i + 1) * z.size ≤ c * z.size := Nat.mul_le_mul_right _ hi
      rw [Nat.succ_mul] at this
      omega
    have hm : (i * z.size + q) % z.size = q := by rw [Nat.mul_comm, Nat.mul_add_mod, Nat.mod_eq_of_lt hq]
    simp only [madeCells, Array.toList_map, Array.toList_range, List.getElem?_map, List.getElem?_range hlt, Option.map_some, hm, Array.getElem?_toList]
    rw [getElem!_pos z q hq]
    simp [hq]
  · rw [if_neg hq, Array.getElem?_toList, Array.getElem?_eq_none (by omega)]
theorem makeSlice_ops (hT : TabOK P T) (hh : HeapR X w ρ base h) (hb : base ≤ w.heap.size) {t e : TypeId} {j : Inf} {τ : Ty} (he : elemInf T t = some (e, j, τ)) {nid : Nat} {ka kb : IntKind} {a b : Int} {K : OK R} {r : R}
    (hk : (bif fresh h nid && decide (0 ≤ a) && decide (a ≤ b) && decide (b ≤ (most : Int)) then K (.own nid 1) [(nid, .lst τ e false 1 (List.replicate a.toNat τ.zero))] else none) = some r) :
    OpS X base w ρ h ((do pure (Next.value (← Instr.makeSlice t (.int ka a) (.int kb b))) : Sem Next).run P w) K r := by
  obtain ⟨hc, hk'⟩ := cond_some hk
  simp only [Bool.and_eq_true, decide_eq_true_eq] at hc
  obtain ⟨⟨⟨hf, h0⟩, h1⟩, h2⟩ := hc
  obtain ⟨hu, hj, hτ, hsz, hby, hmk⟩ := elemInf_some hT he
  obtain ⟨ti, hti, e1, e2, e3⟩ := hT.info e j hj
  obtain ⟨_, hz⟩ := hT.ty e j τ hj hτ
  have hzs := hT.zsize e j hj
  simp only [most] at h2
  have hbb : (ti.bytes : Int) * b ≤ 281474976710656 := by
    have h3 : (ti.bytes : Int) ≤ 128 := by rw [e2]; omega
    have h4 : (ti.bytes : Int) * b ≤ 128 * b := Int.mul_le_mul_of_nonneg_right h3 (by omega)
    omega
  have hrun := run_make (P := P) w t e ti j.zero hu hti e3 ka kb a b h0 h1 hbb (by omega)
  have hpos : 0 < j.zero.cells.size := by rw [hzs, ← hsz]; exact τ.size_pos
  refine OpS.of _ hrun hk' (new_lst (xs := (madeCells j.zero.cells (b.toNat * ti.size)).toList.take (a.toNat * τ.size)) hh hb hf (by rw [alloc_size]; omega) (fun k hk => alloc_heap w _ k hk) ((Below.refl _ _).alloc hb _)
    (fun n hn => by have hn := vblock_own hn; simp only [Value.ownBlock, Option.some.injEq] at hn; rw [alloc_size]; omega) ⟨_, _, _, rfl⟩ ?_ (by simp) ?_)
  · rw [List.length_replicate]
    refine .mk hmk ⟨?_, .inr ⟨w.heap.size, b.toNat, _, rfl, hb, heap_alloc_new w _, by omega, by simp only [maxLen]; omega, by rw [size_madeCells, e1, hsz], rfl⟩⟩
    rw [List.length_take, Array.length_toList, size_madeCells, e1, hsz]
    have : a.toNat * j.size ≤ b.toNat * j.size := Nat.mul_le_mul_right _ (by omega)
    omega
  · intro i y hy
    have hi : i < a.toNat := by have := (List.getElem?_eq_some_iff.1 hy).1; simpa using this
    have hy' : y = τ.zero := by rw [List.getElem?_replicate, if_pos hi] at hy; exact (Option.some.inj hy).symm
    subst hy'
    have := hz (owned X ρ) w
    have e4 : (((madeCells j.zero.cells (b.toNat * ti.size)).toList.take (a.toNat * τ.size)).drop (i * τ.size)).take τ.size = j.zero.cells.toList := by
      rw [e1, ← hzs, hsz, ← hzs, ← made_get hpos b.toNat i (by omega)]
      rw [List.drop_take, List.take_take]
      congr 1
      have : (i + 1) * j.zero.cells.size ≤ a.toNat * j.zero.cells.size := Nat.mul_le_mul_right _ hi
      rw [Nat.succ_mul] at this
      omega
    rw [e4]; exact this
end
end Go.Proofs.YtibdnfknokkadaaDoor.Ev
