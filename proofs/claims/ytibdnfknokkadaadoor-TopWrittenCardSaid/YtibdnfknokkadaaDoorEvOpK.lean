/- All plain operations in one word; calls that are told on plain data. -/
import Derived.Test.YtibdnfknokkadaaDoorEvOpJ
set_option linter.unusedVariables false
set_option linter.unusedSimpArgs false
namespace Go.Proofs.YtibdnfknokkadaaDoor.Ev
open Go Go.RowKit
variable {X : Nat → Prop}

section
variable {R : Type} {w : World} {ρ : Rho} {base : Nat} {h : List HE} {P : Program} {T : Tab}
theorem VR_list {A : Operand → AV} {B : Operand → Value} (hAB : ∀ x, VR X w ρ h (A x) (B x)) (xs : Array Operand) : (xs.toList.map A).length = (xs.map B).size ∧ ∀ (i : Nat) (c : AV) (v : Value), (xs.toList.map A)[i]? = some c → (xs.map B)[i]? = some v → VR X w ρ h c v := by
  refine ⟨by simp, fun i c v hc hv => ?_⟩
  obtain ⟨x, hx, rfl⟩ := map_at hc
  rw [Array.getElem?_map] at hv
  rw [Array.getElem?_toList] at hx
  rw [hx] at hv
  obtain rfl := Option.some.inj hv
  exact hAB x
theorem opK_sound (hT : TabOK P T) (hh : HeapR X w ρ base h) (hb : base ≤ w.heap.size) {A : Operand → AV} {B : Operand → Value} (hAB : ∀ x, VR X w ρ h (A x) (B x)) {o : Oper} {nid : Nat} {K : OK R} {r : R}
    (hk : opK T o.op A h nid K = some r) : OpS X base w ρ h ((execOp B o).run P w) K r := by
  obtain ⟨dst, op, type, pos, after, guard⟩ := o
  cases op with
  | move x => exact OpS.same hh hk (hAB x)
  | assign x => exact OpS.same hh hk (hAB x)
  | pick c a b =>
    simp only [opK] at hk
    split at hk
    · rename_i t hA
      have hc := hAB c
      rw [hA] at hc
      have e := inv_bool hc
      have hrun : (execOp B ⟨dst, .pick c a b, type, pos, after, guard⟩).run P w = .ok (.value (if t then B a else B b)) w := by
        simp [execOp, e, asBool]
      rw [hrun]
      cases t with
      | true => exact OpS.same hh hk (by simpa using hAB a)
      | false => exact OpS.same hh hk (by simpa using hAB b)
    · simp at hk
  | alloc e =>
    simp only [opK] at hk
    split at hk
    · rename_i i hi; exact alloc_ops hT hh hb hi hk
    · simp at hk
  | box e x => exact box_ops hh hb (hAB x) hk
  | build t ps =>
    simp only [opK] at hk
    split at hk
    · rename_i i hi
      obtain ⟨hf, hk⟩ := cond_some hk
      exact build_ops hT hh hAB hi hf hk
    · simp at hk
  | buildSlice t n ps =>
    simp only [opK] at hk
    split at hk
    · rename_i e j τ he; exact buildSlice_ops hT hh hb hAB he hk
    · split at hk
      · rename_i e j he; exact buildRow_ops hT hh hb hAB he hk
      · simp at hk
  | load t x =>
    simp only [opK] at hk
    split at hk
    · rename_i i hi; exact ResV.ops hh (load_res hT hh hi (hAB x) hk)
    · simp at hk
  | store t a x =>
    simp only [opK] at hk
    split at hk
    · rename_i i hi
      have h2 := cond_some hk
      clear hk
      obtain ⟨hc, hk⟩ := h2
      have hsz := Nat.eq_of_beq_eq_true hc
      have ha := hAB a
      cases hA : A a with
      | ptr id off => rw [hA] at hk ha; exact store_ptr hT hh hb hi ha (hAB x) hsz hk
      | eptr id g sz k off => rw [hA] at hk ha; exact store_eptr hT hh hb hi ha (hAB x) hsz hk
      | _ => rw [hA] at hk; simp [storeK] at hk
    · simp at hk
  | nilCheck x =>
    simp only [opK] at hk
    have hx := hAB x
    cases hA : A x with
    | ptr id off =>
      rw [hA] at hk hx
      obtain ⟨ad, e⟩ := ptr_inv (.inl ⟨_, _, rfl⟩) hx
      have hrun : (execOp B ⟨dst, .nilCheck x, type, pos, after, guard⟩).run P w = .ok (.value (B x)) w := by simp [execOp, e]
      rw [hrun]; exact OpS.same hh hk hx
    | eptr id g z k o =>
      rw [hA] at hk hx
      obtain ⟨ad, e⟩ := ptr_inv (.inr (.inl ⟨_, _, _, _, _, rfl⟩)) hx
      have hrun : (execOp B ⟨dst, .nilCheck x, type, pos, after, guard⟩).run P w = .ok (.value (B x)) w := by simp [execOp, e]
      rw [hrun]; exact OpS.same hh hk hx
    | ro t y o =>
      rw [hA] at hk hx
      obtain ⟨ad, e⟩ := ptr_inv (.inr (.inr ⟨_, _, _, rfl⟩)) hx
      have hrun : (execOp B ⟨dst, .nilCheck x, type, pos, after, guard⟩).run P w = .ok (.value (B x)) w := by simp [execOp, e]
      rw [hrun]; exact OpS.same hh hk hx
    | fn f a b =>
      rw [hA] at hk hx
      cases f with
      | func g =>
        have : ∃ a' b', B x = .func (.func g) a' b' := by
          generalize B x = v at hx
          cases hx with
          | fn _ _ _ _ => exact ⟨_, _, rfl⟩
        obtain ⟨a', b', e⟩ := this
        have hrun : (execOp B ⟨dst, .nilCheck x, type, pos, after, guard⟩).run P w = .ok (.value (B x)) w := by simp [execOp, e]
        rw [hrun]; exact OpS.same hh hk hx
      | _ => simp at hk
    | _ => rw [hA] at hk; simp at hk
  | binOp op t x y yt =>
    have hx := hAB x
    have hy := hAB y
    have gen : binK T h op t (A x) (A y) (fun v => K v []) = some r → OpS X base w ρ h ((execOp B ⟨dst, .binOp op t x y yt, type, pos, after, guard⟩).run P w) K r := fun hk =>
      bin_ops hh (binK_plain hx hk) (binK_sound hx hy hT hk)
    cases op with
    | eql =>
      simp only [opK] at hk
      split at hk
      · rename_i b hb; exact (eqCmp_ops hT hh hx hy hb).1 hk
      · exact gen hk
    | neq =>
      simp only [opK] at hk
      split at hk
      · rename_i b hb; exact (eqCmp_ops hT hh hx hy hb).2 hk
      · exact gen hk
    | _ => exact gen hk
  | unOp op t x => exact ResV.ops hh (unK_sound (hAB x) hk)
  | convert s d x => exact ResV.ops hh (convert_res hT hh (hAB x) hk)
  | makeFunc f a b =>
    have e : (execOp B ⟨dst, .makeFunc f a b, type, pos, after, guard⟩).run P w = .ok (.value (.func f (a.map B) (b.map B))) w := by simp [execOp, Instr.makeFunc]
    rw [e]
    refine OpS.same hh hk (.fn (VR_list hAB a).1 (VR_list hAB a).2 (VR_list hAB b).1 (VR_list hAB b).2)
  | makeSlice t l c =>
    simp only [opK] at hk
    split at hk
    · rename_i e j τ ka a kb b he hl hc
      have h1 := hAB l
      have h2 := hAB c
      rw [hl] at h1
      rw [hc] at h2
      have := makeSlice_ops (ka := ka) (kb := kb) hT hh hb he hk
      rw [← inv_int h1, ← inv_int h2] at this
      exact this
    · simp at hk
  | slice t x lo hi mx => exact sliceK_ops hT hh hb hAB hk
  | fieldAddr s x f => exact ResV.ops hh (fieldAddr_res hT (hAB x) hk)
  | field s x f => exact ResV.ops hh (field_res hT (hAB x) hk)
  | indexAddr t x i =>
    simp only [opK] at hk
    have hi := hAB i
    have hx := hAB x
    cases ht : T t with
    | none => rw [ht] at hk; simp at hk
    | some j =>
      cases hA : A i with
      | int ki n =>
        rw [ht, hA] at hk
        rw [hA] at hi
        have hu := hT.und t j ht
        refine ResV.ops hh (s := Instr.indexAt t (B x) (B i)) ?_
        rw [inv_int hi]
        simp only at hk
        cases hd : j.desc with
        | slice e =>
          rw [hd] at hu hk
          cases hB : A x with
          | sl τ nl l =>
            rw [hB] at hk hx
            simp only at hk
            split at hk
            · rename_i k hk'; exact indexAddr_sl hT hu hk' hx hk
            · simp at hk
          | own id g =>
            rw [hB] at hk hx
            simp only at hk
            split at hk
            · rename_i τ ty nl g' l k hid he; exact indexAddr_own hT hh hu he hx hid hk
            · simp at hk
          | bs id off n cap =>
            rw [hB] at hk hx
            simp only at hk
            split at hk
            · rename_i k hk'; exact indexAddr_bs hT hu hk' hx hk
            · simp at hk
          | _ => rw [hB] at hk; simp at hk
        | array n e =>
          rw [hd] at hu hk
          have hk' : (match T e with
            | some k => bif Nat.ble 2 n then pickIdx n 0 _ fun q => addrAdd (A x) (q * k.size) fun v => K v [] else none
            | none => none) = some r := hk
          split at hk'
          · rename_i k he; exact indexAddr_arr hT hu he hx hk'
          · simp at hk'
        | _ => rw [hd] at hk; simp at hk
      | _ => rw [ht, hA] at hk; simp at hk
  | index t x i =>
    simp only [opK] at hk
    have hi := hAB i
    have hx := hAB x
    cases ht : T t with
    | none => rw [ht] at hk; simp at hk
    | some j =>
      have hu := hT.und t j ht
      cases hA : A i with
      | int ki n =>
        rw [hA] at hi
        refine ResV.ops hh (s := Instr.index t (B x) (B i)) ?_
        rw [inv_int hi]
        cases hB : A x with
        | str s =>
          rw [ht, hA, hB] at hk
          rw [hB] at hx
          rw [inv_str hx]
          simp only at hk
          split at hk
          · rename_i hd; rw [hd] at hu; exact index_str hu hk
          · simp at hk
        | agg cs =>
          rw [ht, hA, hB] at hk
          simp only at hk
          split at hk
          · rename_i m e hd
            rw [hd] at hu
            split at hk
            · rename_i k he; exact index_arr hT hu he hB hx hk
            · simp at hk
          · simp at hk
        | _ => rw [ht, hA, hB] at hk; simp at hk
      | _ => rw [ht, hA] at hk; cases A x <;> simp at hk
  | extract x i =>
    simp only [opK] at hk
    have hx := hAB x
    cases hA : A x with
    | tup vs =>
      rw [hA] at hk hx
      simp only at hk
      split at hk
      · rename_i v hv
        obtain ⟨us, e, hl, hus⟩ := inv_tup hx
        have hlt : i < us.size := by rw [← hl]; exact (List.getElem?_eq_some_iff.1 hv).1
        have hrun : (execOp B ⟨dst, .extract x i, type, pos, after, guard⟩).run P w = .ok (.value us[i]) w := by simp [execOp, e, Instr.extract, hlt]
        rw [hrun]
        exact OpS.same hh hk (hus i v _ hv (by simp [hlt]))
      · simp at hk
    | _ => rw [hA] at hk; simp at hk
  | _ => simp [opK] at hk
end
end Go.Proofs.YtibdnfknokkadaaDoor.Ev
