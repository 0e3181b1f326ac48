/- Functions: what the evaluator says of a function is what a call of it does. -/
import Derived.Test.YtibdnfknokkadaaDoorEvFlo
set_option linter.unusedVariables false
set_option linter.unusedSimpArgs false
namespace Go.Proofs.YtibdnfknokkadaaDoor.Ev
open Go Go.RowKit
variable {X : Nat → Prop}

section
variable {R : Type} {P : Program} {T : Tab} {F : PT} {C : CallK R} {O : CutK R} {s : From}
theorem append_some {α : Type} {a b : List α} {i : Nat} {x : α} (h : a[i]? = some x) : (a ++ b)[i]? = some x := by
  rw [List.getElem?_append_left (List.getElem?_eq_some_iff.1 h).1]; exact h
/-- More is held, at the end. -/
theorem grow {w : World} {ρ : Rho} {base : Nat} {h : List HE} (hh : HeapR X w ρ base h) {e : HE} {rl : RL} (hr : ∀ n, rl.block = some n → False) (hher : Fwd X w ρ h w (ρ ++ [rl]) (h ++ [e]) → HER X w (ρ ++ [rl]) (h ++ [e]) base e rl) :
    HeapR X w (ρ ++ [rl]) base (h ++ [e]) ∧ Fwd X w ρ h w (ρ ++ [rl]) (h ++ [e]) := by
  have f : Fwd X w ρ h w (ρ ++ [rl]) (h ++ [e]) := by
    refine ⟨Nat.le_refl _, fun _ _ _ => rfl, fun b _ ho => ?_, fun i x hx => ⟨x, append_some hx, Nat.le_refl _⟩, fun i x t ty nl g l hx hl => ?_, fun i b hb => append_some hb⟩
    · rcases ho with hX | ⟨r, hrm, hn⟩
      · exact .inl hX
      · rcases List.mem_append.1 hrm with hrm | hrm
        · exact .inr ⟨r, hrm, hn⟩
        · simp only [List.mem_singleton] at hrm
          subst hrm
          exact (hr b hn).elim
    · rw [append_some hx] at hl
      obtain rfl := Option.some.inj hl
      have hi : i < ρ.length := by rw [hh.len]; exact (List.getElem?_eq_some_iff.1 hx).1
      exact .inr ⟨⟨t, ty, nl, l, rfl⟩, by rw [List.getElem?_append_left hi]⟩
  refine ⟨⟨by simp [hh.len], fun i x hx => ?_, fun i j r r' n hi hj hn hn' => ?_, fun i r n hi hn => ?_, hh.ext⟩, f⟩
  · by_cases hi : i < h.length
    · rw [List.getElem?_append_left hi] at hx
      obtain ⟨r, hr', hx'⟩ := hh.ent i x hx
      exact ⟨r, append_some hr', HER_fwd f (fun _ _ => rfl) hx'⟩
    · rw [List.getElem?_append_right (by omega)] at hx
      have hi0 : i - h.length = 0 := by
        have := (List.getElem?_eq_some_iff.1 hx).1
        simp at this; omega
      rw [hi0] at hx
      simp only [List.getElem?_cons_zero, Option.some.injEq] at hx
      subst hx
      refine ⟨rl, ?_, hher f⟩
      rw [List.getElem?_append_right (by rw [hh.len]; omega), hh.len, hi0]; rfl
  · have sp : ∀ (i : Nat) (r : RL) (n : Nat), (ρ ++ [rl])[i]? = some r → r.block = some n → ρ[i]? = some r := fun i r n hi hn => by
      by_cases hlt : i < ρ.length
      · rwa [List.getElem?_append_left hlt] at hi
      · rw [List.getElem?_append_right (by omega)] at hi
        have hm : r ∈ [rl] := List.mem_of_getElem? hi
        simp only [List.mem_singleton] at hm
        subst hm
        exact (hr n hn).elim
    exact hh.dist i j r r' n (sp i r n hi hn) (sp j r' n hj hn') hn hn'
  · by_cases hlt : i < ρ.length
    · rw [List.getElem?_append_left hlt] at hi; exact hh.lo i r n hi hn
    · rw [List.getElem?_append_right (by omega)] at hi
      have hm : r ∈ [rl] := List.mem_of_getElem? hi
      simp only [List.mem_singleton] at hm
      subst hm
      exact (hr n hn).elim
theorem reserve_sound : ∀ (n : Nat) {st : St} {a : Act} {w : World}, StR X s st a w → StR X s { st with heap := st.heap ++ List.replicate n (.dead 0) } a w
  | 0, st, a, w, h => by simpa using h
  | n + 1, st, a, w, h => by
    have h' : StR X s { st with heap := st.heap ++ [.dead 0] } a w := by
      obtain ⟨ρ, h1, h2, h3, h4, h5, h6⟩ := h
      obtain ⟨k1, f⟩ := grow h1 (e := .dead 0) (rl := .d) (fun n hn => by simp [RL.block] at hn) (fun _ => .dead 0)
      exact ⟨_, k1, EnvR_fwd f h2, h3, h4, h5.trans f, h6⟩
    have := reserve_sound n h'
    rw [List.replicate_succ]
    simpa using this

/-! Where ways meet. -/
theorem meet_map {w : World} {ρ ρ' : Rho} {h h' : List HE} {v0 : Nat → Nat → Nat} {hl : Nat} (m : ∀ {c : AV} {v : Value}, VR X w ρ h c v → VR X w ρ' h' (c.meet0 h v0 hl) v) {c : AV} {v : Value} (hv : VR X w ρ h c v) : VR X w ρ' h' (c.meet h v0 hl) v := by
  have h0 := m hv
  cases hv with
  | agg hl hh => exact .agg (by simpa using hl) (fun i c v hc hv => by obtain ⟨x, hx, rfl⟩ := map_at hc; exact m (hh i x v hx hv))
  | tup hl hh => exact .tup (by simpa using hl) (fun i c v hc hv => by obtain ⟨x, hx, rfl⟩ := map_at hc; exact m (hh i x v hx hv))
  | fn hl hh hl' hh' => exact .fn (by simpa using hl) (fun i c v hc hv => by obtain ⟨x, hx, rfl⟩ := map_at hc; exact m (hh i x v hx hv)) (by simpa using hl') (fun i c v hc hv => by obtain ⟨x, hx, rfl⟩ := map_at hc; exact m (hh' i x v hx hv))
  | _ => exact h0
theorem meetHeap_get (h : List HE) (v0 : Nat → Nat → Nat) (hl : Nat) : ∀ (l : List HE) (k i : Nat) (e : HE), (meetHeap h v0 hl l k)[i]? = some e → ∃ e0, l[i]? = some e0 ∧
    e = (match e0 with
    | .blk cs => .blk (cs.map (AV.meet h v0 hl))
    | .lst t e nl g l => .lst t e nl (v0 (k + i) g) l
    | .dead 0 => .dead 0
    | .dead g => .dead (v0 (k + i) g)
    | e => e)
  | [], _, _, _, he => by simp [meetHeap] at he
  | x :: l, k, 0, e, he => by
    simp only [meetHeap, List.getElem?_cons_zero, Option.some.injEq] at he
    exact ⟨x, rfl, he.symm⟩
  | x :: l, k, i + 1, e, he => by
    simp only [meetHeap, List.getElem?_cons_succ] at he
    obtain ⟨e0, h1, h2⟩ := meetHeap_get h v0 hl l (k + 1) i e he
    exact ⟨e0, by simpa using h1, by rw [show k + (i + 1) = k + 1 + i by omega]; exact h2⟩
theorem meetHeap_length (h : List HE) (v0 : Nat → Nat → Nat) (hl : Nat) : ∀ (l : List HE) (k : Nat), (meetHeap h v0 hl l k).length = l.length
  | [], _ => rfl
  | _ :: l, k => by simp [meetHeap, meetHeap_length h v0 hl l]
theorem newVer_pos (bu v0 : List Nat) (i : Nat) {g : Nat} (hg : 1 ≤ g) : 1 ≤ newVer bu v0 i g := by
  unfold newVer
  split
  · rename_i v _
    cases hb : (Nat.beq g v && !memN bu i) with
    | false => simp
    | true =>
      rw [Bool.and_eq_true] at hb
      have := Nat.eq_of_beq_eq_true hb.1
      simp only [cond_true]; omega
  · exact Nat.le_refl _
theorem newVer_at {bu v0 : List Nat} {i g v : Nat} (h : v0[i]? = some v) : newVer bu v0 i g = v + 1 ∨ (newVer bu v0 i g = v ∧ g = v) := by
  unfold newVer
  rw [h]
  show (bif (Nat.beq g v && !memN bu i) then v else v + 1) = v + 1 ∨ ((bif (Nat.beq g v && !memN bu i) then v else v + 1) = v ∧ g = v)
  cases hb : (Nat.beq g v && !memN bu i) with
  | false => exact .inl rfl
  | true =>
    rw [Bool.and_eq_true] at hb
    exact .inr ⟨rfl, Nat.eq_of_beq_eq_true hb.1⟩
theorem zipK_map (f : Nat → AV) : ∀ keep : List Nat, zipK keep (keep.map f) = keep.map fun i => (i, f i)
  | [] => rfl
  | i :: ks => by simp only [List.map_cons, zipK, zipK_map f ks]
theorem swpI_inv (a b i : Nat) : swpI a b (swpI a b i) = i := by
  unfold swpI
  cases h1 : Nat.beq i a with
  | true =>
    have := Nat.eq_of_beq_eq_true h1
    subst this
    simp only [cond_true]
    cases h2 : Nat.beq b i with
    | true => exact Nat.eq_of_beq_eq_true h2
    | false => simp
  | false =>
    simp only [cond_false]
    cases h2 : Nat.beq i b with
    | true => have := Nat.eq_of_beq_eq_true h2; subst this; simp
    | false => simp [h1, h2]
theorem swpI_ne {a b i n : Nat} (h1 : i < n) (h2 : n ≤ a) (h3 : n ≤ b) : swpI a b i = i := by
  unfold swpI
  have e1 : Nat.beq i a = false := by cases h : Nat.beq i a with | false => rfl | true => have := Nat.eq_of_beq_eq_true h; omega
  have e2 : Nat.beq i b = false := by cases h : Nat.beq i b with | false => rfl | true => have := Nat.eq_of_beq_eq_true h; omega
  rw [e1, e2]; rfl
theorem swpL_get {α : Type} {a b : Nat} {l : List α} (ha : a < l.length) (hb : b < l.length) (i : Nat) : (swpL a b l)[swpI a b i]? = l[i]? := by
  unfold swpL swpI
  rw [List.getElem?_eq_getElem ha, List.getElem?_eq_getElem hb]
  simp only
  cases h1 : Nat.beq i a with
  | true =>
    have := Nat.eq_of_beq_eq_true h1
    subst this
    simp only [cond_true]
    rw [List.getElem?_set_self (by simpa using hb), List.getElem?_eq_getElem ha]
  | false =>
    have hia : i ≠ a := Nat.ne_of_beq_eq_false h1
    simp only [cond_false]
    cases h2 : Nat.beq i b with
    | true =>
      have := Nat.eq_of_beq_eq_true h2
      subst this
      simp only [cond_true]
      rw [List.getElem?_set_ne hia, List.getElem?_set_self ha, List.getElem?_eq_getElem hb]
    | false =>
      have hib : i ≠ b := Nat.ne_of_beq_eq_false h2
      simp only [cond_false]
      rw [List.getElem?_set_ne (Ne.symm hib), List.getElem?_set_ne (Ne.symm hia)]
theorem swpL_at {α : Type} {a b : Nat} {l : List α} (ha : a < l.length) (hb : b < l.length) (i : Nat) : (swpL a b l)[i]? = l[swpI a b i]? := by
  have := swpL_get ha hb (swpI a b i)
  rwa [swpI_inv] at this
theorem swpL_length {α : Type} (a b : Nat) (l : List α) : (swpL a b l).length = l.length := by
  unfold swpL; split <;> simp
theorem swp_ver (a b : Nat) (e : HE) : (e.swp a b).ver = e.ver := by cases e <;> rfl
theorem look_swpE (a b : Nat) : ∀ (env : List (Nat × AV)) (t : Nat), look (swpE a b env) t = (look env t).swp a b
  | [], t => rfl
  | (i, v) :: r, t => by
    simp only [swpE, look]
    cases h : Nat.beq i t with
    | true => rfl
    | false => exact look_swpE a b r t
theorem swp_sound {a b : Nat} {st : St} {ac : Act} {w : World} (hs : StR X s st ac w) (ha : a < st.heap.length) (hb : b < st.heap.length) (hva : st.v0.length ≤ a) (hvb : st.v0.length ≤ b) : StR X s (st.swp a b) ac w := by
  obtain ⟨ρ, h1, h2, h3, h4, h5, h6, h7, h8, h9⟩ := hs
  have ha' : a < ρ.length := by rw [h1.len]; exact ha
  have hb' : b < ρ.length := by rw [h1.len]; exact hb
  have rho : ∀ i, (swpL a b ρ)[swpI a b i]? = ρ[i]? := swpL_get ha' hb'
  have rho' : ∀ i, (swpL a b ρ)[i]? = ρ[swpI a b i]? := swpL_at ha' hb'
  have heap : ∀ i, (swpL a b (st.heap.map (HE.swp a b)))[i]? = (st.heap[swpI a b i]?).map (HE.swp a b) := fun i => by
    rw [swpL_at (by simpa using ha) (by simpa using hb), List.getElem?_map]
  have own : ∀ n, owned X (swpL a b ρ) n → owned X ρ n := fun n ho => by
    rcases ho with hX | ⟨r, hr, hn⟩
    · exact .inl hX
    · obtain ⟨j, hj⟩ := List.mem_iff_getElem?.1 hr
      rw [rho'] at hj
      exact owned_of hj hn
  have rc : ∀ {t : Ty} {x : t.den} {cs : List Value}, RC (owned X ρ) w t x cs → RC (owned X (swpL a b ρ)) w t x cs := fun hr => RC_mono (fun _ _ _ => rfl) (fun b _ ho => own b ho) _ _ _ hr
  have lst : ∀ {i : Nat} {t : Ty} {e : TypeId} {nl : Bool} {g : Nat} {l : List t.den}, (swpL a b (st.heap.map (HE.swp a b)))[swpI a b i]? = some (.lst t e nl g l) → st.heap[i]? = some (.lst t e nl g l) := fun {i t e nl g l} hl => by
    rw [heap, swpI_inv] at hl
    cases hh : st.heap[i]? with
    | none => rw [hh] at hl; simp at hl
    | some x =>
      rw [hh] at hl
      simp only [Option.map_some, Option.some.injEq] at hl
      cases x with
      | blk cs => simp [HE.swp] at hl
      | lst _ _ _ _ _ => rw [← hl]; rfl
      | dead g => simp [HE.swp] at hl
      | mp _ _ _ _ _ _ => simp [HE.swp] at hl
      | itr _ _ _ _ => simp [HE.swp] at hl
  have ver : ∀ {i g : Nat}, (∃ e : HE, st.heap[i]? = some e ∧ g ≤ e.ver) → ∃ e : HE, (swpL a b (st.heap.map (HE.swp a b)))[swpI a b i]? = some e ∧ g ≤ e.ver := fun {i g} ⟨e, he, hg⟩ =>
    ⟨e.swp a b, by rw [heap, swpI_inv, he]; rfl, by rw [swp_ver]; exact hg⟩
  have m0 : ∀ {c : AV} {v : Value}, VR X w ρ st.heap c v → VR X w (swpL a b ρ) (swpL a b (st.heap.map (HE.swp a b))) (c.swp0 a b) v := fun {c v} hv => by
    cases hv with
    | int k n => exact .int k n
    | bool b => exact .bool b
    | str b => exact .str b
    | nils => exact .nils
    | lit v => exact .lit v
    | sl hr => exact .sl (rc hr)
    | slz hz => exact .slz hz
    | own he hg ha hs => exact .own (ver he) hg (fun t e nl l hl => by rw [rho]; exact ha t e nl l (lst hl)) hs
    | ptr hr => exact .ptr (by rw [rho]; exact hr)
    | mpv hr => exact .mpv (by rw [rho]; exact hr)
    | bs hr => exact .bs (by rw [rho]; exact hr)
    | eptr he hg ha => exact .eptr (ver he) hg (fun t e nl l hl => by rw [rho]; exact ha t e nl l (lst hl))
    | ro hO hb hc hr => exact .ro (fun ho => hO (own _ ho)) hb hc (rc hr)
    | agg _ _ => exact .junk _
    | tup _ _ => exact .junk _
    | fn _ _ _ _ => exact .junk _
    | junk v => exact .junk v
    | vw _ _ _ => exact .junk _
  have m : ∀ {c : AV} {v : Value}, VR X w ρ st.heap c v → VR X w (swpL a b ρ) (swpL a b (st.heap.map (HE.swp a b))) (c.swp a b) v := fun {c v} hv => by
    have h0 := m0 hv
    cases hv with
    | agg hl hh => exact .agg (by simpa using hl) (fun i c v hc hv => by obtain ⟨x, hx, rfl⟩ := map_at hc; exact m0 (hh i x v hx hv))
    | tup hl hh => exact .tup (by simpa using hl) (fun i c v hc hv => by obtain ⟨x, hx, rfl⟩ := map_at hc; exact m0 (hh i x v hx hv))
    | fn hl hh hl' hh' => exact .fn (by simpa using hl) (fun i c v hc hv => by obtain ⟨x, hx, rfl⟩ := map_at hc; exact m0 (hh i x v hx hv)) (by simpa using hl') (fun i c v hc hv => by obtain ⟨x, hx, rfl⟩ := map_at hc; exact m0 (hh' i x v hx hv))
    | _ => exact h0
  have hlen0 : st.v0.length = s.h.length := by rw [h8, List.length_map]
  refine ⟨swpL a b ρ, ⟨?_, fun i e he => ?_, fun i j r r' n hi hj hn hn' => ?_, fun i r n hi hn => ?_, h1.ext⟩, fun t => ?_, h3, h4, ?_, h6, h7, h8, h9⟩
  · show (swpL a b ρ).length = (swpL a b (st.heap.map (HE.swp a b))).length
    rw [swpL_length, swpL_length, List.length_map, h1.len]
  · have he' : (swpL a b (st.heap.map (HE.swp a b)))[i]? = some e := he
    rw [heap] at he'
    cases hq : st.heap[swpI a b i]? with
    | none => rw [hq] at he'; simp at he'
    | some x =>
      rw [hq] at he'
      simp only [Option.map_some, Option.some.injEq] at he'
      subst he'
      obtain ⟨r, hr, hher⟩ := h1.ent _ _ hq
      refine ⟨r, by rw [rho']; exact hr, ?_⟩
      cases hher with
      | blk hb hl hh => exact .blk hb (by simpa using hl) (fun i c v hc hv => by obtain ⟨x, hx, rfl⟩ := map_at hc; exact m (hh i x v hx hv))
      | lst hg ho hn hh => exact .lst hg ho hn (fun i y hy => rc (hh i y hy))
      | dead g => exact .dead g
      | mp hb hl hh hc => exact .mp hb hl (fun i d e hd he => by
          obtain ⟨k1, k2, k3⟩ := hh i d e hd he
          exact ⟨k1, ⟨rc k2.1, k2.2⟩, ⟨rc k3.1, k3.2⟩⟩) hc
      | itr hri hb => exact .itr (by rw [rho]; exact hri) hb
  · rw [rho'] at hi hj
    have := h1.dist _ _ r r' n hi hj hn hn'
    rw [← swpI_inv a b i, this, swpI_inv]
  · rw [rho'] at hi
    exact h1.lo _ r n hi hn
  · show VR X w (swpL a b ρ) (swpL a b (st.heap.map (HE.swp a b))) (look (swpE a b st.env) t) _
    rw [look_swpE]; exact m (h2 t)
  · have same : ∀ {i : Nat} {e : HE}, s.h[i]? = some e → swpI a b i = i := fun {i e} he => swpI_ne (n := st.v0.length) (by rw [hlen0]; exact (List.getElem?_eq_some_iff.1 he).1) hva hvb
    refine ⟨h5.size, h5.blk, fun b hb ho => h5.own b hb (own b ho), fun i e he => ?_, fun i e t ty nl g l he hl => ?_, fun i b' hi => ?_⟩
    · obtain ⟨e', he', hle⟩ := h5.ent i e he
      exact ⟨e'.swp a b, by show (swpL a b (st.heap.map (HE.swp a b)))[i]? = _; rw [heap, same he, he']; rfl, by rw [swp_ver]; exact hle⟩
    · have hl' : (swpL a b (st.heap.map (HE.swp a b)))[i]? = some (.lst t ty nl g l) := hl
      rw [← same he] at hl'
      rcases h5.lst i e t ty nl g l he (lst hl') with h10 | ⟨h10, h11⟩
      · exact .inl h10
      · exact .inr ⟨h10, by rw [rho', same he]; exact h11⟩
    · have hi' : i < s.h.length := by rw [← h9]; exact (List.getElem?_eq_some_iff.1 hi).1
      rw [rho', swpI_ne (n := st.v0.length) (by rw [hlen0]; exact hi') hva hvb]
      exact h5.rb i b' hi
theorem canon_same : ∀ (l : List (Nat × Nat)) (st : St), (canon l st).n = st.n ∧ (canon l st).v0 = st.v0
  | [], st => ⟨rfl, rfl⟩
  | (sl, t) :: r, st => by
    simp only [canon]
    split
    · rename_i i _
      cases hc : (!Nat.beq i t && Nat.ble st.v0.length i && Nat.ble st.v0.length t && Nat.blt i st.heap.length && Nat.blt t st.heap.length) with
      | true => simp only [cond_true]; have := canon_same r (st.swp i t); exact this
      | false => simp only [cond_false]; exact canon_same r st
    · exact canon_same r st
theorem canon_sound : ∀ (l : List (Nat × Nat)) {st : St} {a : Act} {w : World}, StR X s st a w → StR X s (canon l st) a w
  | [], st, a, w, h => h
  | (sl, t) :: r, st, a, w, h => by
    simp only [canon]
    split
    · rename_i i _
      cases hc : (!Nat.beq i t && Nat.ble st.v0.length i && Nat.ble st.v0.length t && Nat.blt i st.heap.length && Nat.blt t st.heap.length) with
      | true =>
        simp only [cond_true]
        simp only [Bool.and_eq_true] at hc
        exact canon_sound r (swp_sound h (Nat.le_of_ble_eq_true hc.1.2) (Nat.le_of_ble_eq_true hc.2) (Nat.le_of_ble_eq_true hc.1.1.1.2) (Nat.le_of_ble_eq_true hc.1.1.2))
      | false => simp only [cond_false]; exact canon_sound r h
    · exact canon_sound r h
theorem canonC_same : ∀ (l : List (Nat × Nat × Nat)) (st : St), (canonC l st).n = st.n ∧ (canonC l st).v0 = st.v0
  | [], st => ⟨rfl, rfl⟩
  | (b, j, t) :: r, st => by
    simp only [canonC]
    split
    · rename_i i _
      cases hc : (!Nat.beq i t && Nat.ble st.v0.length i && Nat.ble st.v0.length t && Nat.blt i st.heap.length && Nat.blt t st.heap.length) with
      | true => simp only [cond_true]; have := canonC_same r (st.swp i t); exact this
      | false => simp only [cond_false]; exact canonC_same r st
    · exact canonC_same r st
theorem canonC_sound : ∀ (l : List (Nat × Nat × Nat)) {st : St} {a : Act} {w : World}, StR X s st a w → StR X s (canonC l st) a w
  | [], st, a, w, h => h
  | (b, j, t) :: r, st, a, w, h => by
    simp only [canonC]
    split
    · rename_i i _
      cases hc : (!Nat.beq i t && Nat.ble st.v0.length i && Nat.ble st.v0.length t && Nat.blt i st.heap.length && Nat.blt t st.heap.length) with
      | true =>
        simp only [cond_true]
        simp only [Bool.and_eq_true] at hc
        exact canonC_sound r (swp_sound h (Nat.le_of_ble_eq_true hc.1.2) (Nat.le_of_ble_eq_true hc.2) (Nat.le_of_ble_eq_true hc.1.1.1.2) (Nat.le_of_ble_eq_true hc.1.1.2))
      | false => simp only [cond_false]; exact canonC_sound r h
    · exact canonC_sound r h
/-- A list of its own is given up. -/
theorem thaw_sound {w : World} {ρ : Rho} {base : Nat} {h : List HE} (hh : HeapR X w ρ base h) (hb : base ≤ w.heap.size) {τ : Ty} {c c' : AV} {i : Nat} {e : HE} (ht : thaw τ h c = some (c', i, e)) {v : Value} (hv : VR X w ρ h c v) :
    ∃ ρ', HeapR X w ρ' base (h.set i e) ∧ Fwd X w ρ h w ρ' (h.set i e) ∧ VR X w ρ' (h.set i e) c' v := by
  cases c with
  | nils =>
    simp only [thaw, Option.some.injEq, Prod.mk.injEq] at ht
    obtain ⟨rfl, rfl, rfl⟩ := ht
    rw [List.set_eq_of_length_le (Nat.le_refl _), inv_nils hv]
    exact ⟨ρ, hh, .refl _ _ _, .sl ⟨none, 0, rfl, rfl, Nat.le_refl _, fun _ => rfl, by simp⟩⟩
  | slz nl =>
    simp only [thaw, Option.some.injEq, Prod.mk.injEq] at ht
    obtain ⟨rfl, rfl, rfl⟩ := ht
    rw [List.set_eq_of_length_le (Nat.le_refl _)]
    cases hv with
    | slz hz =>
      obtain ⟨a, rfl, rfl⟩ := hz
      exact ⟨ρ, hh, .refl _ _ _, .sl ⟨a, 0, rfl, by simp, Nat.le_refl _, fun _ => rfl, by simp⟩⟩
  | own j g =>
    simp only [thaw] at ht
    split at ht
    · rename_i t ty nl g' l hi
      cases hgg : Nat.beq g g' with
      | false => rw [hgg] at ht; simp at ht
      | true =>
        obtain rfl := Nat.eq_of_beq_eq_true hgg
        rw [hgg] at ht
        simp only [cond_true, Option.some.injEq, Prod.mk.injEq] at ht
        obtain ⟨rfl, rfl, rfl⟩ := ht
        obtain ⟨ρ', k1, k2, k3, k4⟩ := freeze_sound [AV.own j g] hh hb (fun i' g' hm => by
          simp only [List.mem_singleton, AV.own.injEq] at hm
          obtain ⟨rfl, rfl⟩ := hm
          exact .inl ⟨_, _, _, _, hi⟩)
        have hno := freeze_no hh (fun i hi => (k3 i hi).1) k4
        refine ⟨ρ', k1, k2, .sl ?_⟩
        refine closeSl_sound hh (O' := owned X ρ') (fun b ho => ?_) (c := .own j g) (x := (nl, l)) ?_ (fun i' g' he r n hr hn => hno i' g' (by simp [he]) r n hr hn) hv
        · by_cases hlt : b < w.heap.size
          · exact k2.own b hlt ho
          · rcases ho with hX | ⟨r, hrm, hrn⟩
            · exact .inl hX
            · obtain ⟨q, hq⟩ := List.mem_iff_getElem?.1 hrm
              exact absurd (k1.lo q r b hq hrn).2 hlt
        · simp only [closeSl, hi, Nat.beq_refl, cond_true, castL, dif_pos]
    · simp at ht
  | _ => simp [thaw] at ht
theorem demE_same : ∀ (l : List (Nat × Nat × Ty)) (st : St), (demE l st).n = st.n ∧ (demE l st).v0 = st.v0
  | [], st => ⟨rfl, rfl⟩
  | (sl, j, τ) :: r, st => by
    unfold demE
    split
    · split
      · split
        · exact demE_same r _
        · exact demE_same r st
      · exact demE_same r st
    · split
      · exact demE_same r _
      · exact demE_same r st
theorem demC_same : ∀ (l : List (Nat × Nat × Ty)) (st : St), (demC l st).n = st.n ∧ (demC l st).v0 = st.v0
  | [], st => ⟨rfl, rfl⟩
  | (id, j, τ) :: r, st => by
    unfold demC
    split
    · split
      · split
        · exact demC_same r _
        · exact demC_same r st
      · exact demC_same r st
    · exact demC_same r st
theorem demE_sound : ∀ (l : List (Nat × Nat × Ty)) {st : St} {a : Act} {w : World}, StR X s st a w → StR X s (demE l st) a w
  | [], st, a, w, h => h
  | (sl, j, τ) :: r, st, a, w, h => by
    unfold demE
    split
    · rename_i cs hl
      split
      · rename_i c hc
        split
        · rename_i c' i e ht
          refine demE_sound r ?_
          obtain ⟨ρ, h1, h2, h3, h4, h5, h6, h7, h8, h9⟩ := h
          have hv := h2 sl
          rw [hl] at hv
          obtain ⟨vs, he, hlen, hh⟩ := inv_agg hv
          have hj : j < vs.size := by rw [← hlen]; exact (List.getElem?_eq_some_iff.1 hc).1
          obtain ⟨ρ', k1, k2, k3⟩ := thaw_sound h1 h7 ht (hh j c vs[j] hc (by simp [hj]))
          refine ⟨ρ', k1, EnvR_know (EnvR_fwd k2 h2) ?_, h3, h4, h5.trans k2, h6, h7, h8, h9⟩
          rw [he]
          refine .agg (by simpa using hlen) (fun q x u hx hu => ?_)
          by_cases hjq : j = q
          · subst hjq
            rw [List.getElem?_set_self (by rw [hlen]; exact hj)] at hx
            obtain rfl := Option.some.inj hx
            simp [hj] at hu
            subst hu
            exact k3
          · rw [List.getElem?_set_ne hjq] at hx
            exact VR_fwd k2 (hh q x u hx hu)
        · exact demE_sound r h
      · exact demE_sound r h
    · split
      · rename_i c' i e ht
        refine demE_sound r ?_
        obtain ⟨ρ, h1, h2, h3, h4, h5, h6, h7, h8, h9⟩ := h
        obtain ⟨ρ', k1, k2, k3⟩ := thaw_sound h1 h7 ht (h2 sl)
        exact ⟨ρ', k1, EnvR_know (EnvR_fwd k2 h2) k3, h3, h4, h5.trans k2, h6, h7, h8, h9⟩
      · exact demE_sound r h
theorem thaw_lst {h : List HE} {τ : Ty} {c c' : AV} {i : Nat} {e : HE} (ht : thaw τ h c = some (c', i, e)) : (∃ t ty nl g l, h[i]? = some (.lst t ty nl g l)) ∨ i = h.length := by
  cases c with
  | nils => simp only [thaw, Option.some.injEq, Prod.mk.injEq] at ht; exact .inr ht.2.1.symm
  | slz nl => simp only [thaw, Option.some.injEq, Prod.mk.injEq] at ht; exact .inr ht.2.1.symm
  | own j g =>
    simp only [thaw] at ht
    split at ht
    · rename_i t ty nl g' l hi
      cases hgg : Nat.beq g g' with
      | false => rw [hgg] at ht; simp at ht
      | true =>
        rw [hgg] at ht
        simp only [cond_true, Option.some.injEq, Prod.mk.injEq] at ht
        obtain ⟨_, rfl, _⟩ := ht
        exact .inl ⟨_, _, _, _, _, hi⟩
    · simp at ht
  | _ => simp [thaw] at ht
theorem demC_sound : ∀ (l : List (Nat × Nat × Ty)) {st : St} {a : Act} {w : World}, StR X s st a w → StR X s (demC l st) a w
  | [], st, a, w, h => h
  | (id, j, τ) :: r, st, a, w, h => by
    unfold demC
    split
    · rename_i cs hid
      split
      · rename_i c hc
        split
        · rename_i c' i e ht
          refine demC_sound r ?_
          obtain ⟨ρ, h1, h2, h3, h4, h5, h6, h7, h8, h9⟩ := h
          obtain ⟨rl, hrl, hher⟩ := h1.ent id _ hid
          obtain ⟨n, rfl⟩ := her_blk hher
          have hne : i ≠ id := fun e' => by
            rcases thaw_lst ht with ⟨t, ty, nl, g, l, hi⟩ | hi
            · rw [e', hid] at hi; simp at hi
            · have := (List.getElem?_eq_some_iff.1 hid).1; omega
          cases hher with
          | @blk _ _ cur ty hbk hl hh =>
            have hj : j < cur.size := by rw [hl]; exact (List.getElem?_eq_some_iff.1 hc).1
            obtain ⟨ρ', k1, k2, k3⟩ := thaw_sound h1 h7 ht (hh j c cur[j] hc (by simp [hj]))
            have hid' : (st.heap.set i e)[id]? = some (.blk cs) := by rw [List.getElem?_set_ne hne]; exact hid
            have hrl' : ρ'[id]? = some (.b n) := k2.rb id n hrl
            obtain ⟨g1, g2, _, _⟩ := set_entry k1 hid' hrl' (e := .blk (cs.set j c')) (rl := .b n) (w' := w) h7 (Nat.le_refl _) (fun _ _ _ => rfl) (fun m hm => ⟨.inl hm, (k1.lo _ _ m hrl' hm).2⟩) (Nat.le_refl _)
              (fun _ _ _ _ _ he => by cases he) (fun _ he => he) (fun f' => .blk hbk (by simpa using hl) (fun q x u hx hu => by
                refine VR_fwd f' ?_
                by_cases hjq : j = q
                · subst hjq
                  rw [List.getElem?_set_self (by rw [← hl]; exact hj)] at hx
                  obtain rfl := Option.some.inj hx
                  simp [hj] at hu
                  subst hu
                  exact k3
                · rw [List.getElem?_set_ne hjq] at hx
                  exact VR_fwd k2 (hh q x u hx hu)))
            exact ⟨_, g1, EnvR_fwd (k2.trans g2) h2, h3, h4, (h5.trans k2).trans g2, h6, h7, h8, h9⟩
        · exact demC_sound r h
      · exact demC_sound r h
    · exact demC_sound r h
theorem prep_same (c : Cl) (st : St) : (prep c st).n = st.n ∧ (prep c st).v0 = st.v0 := by
  unfold prep
  have h1 := canon_same c.sw st
  have h0 := canonC_same c.swc (canon c.sw st)
  have h2 := demE_same c.dm (canonC c.swc (canon c.sw st))
  have h3 := demC_same c.dmc (demE c.dm (canonC c.swc (canon c.sw st)))
  exact ⟨h3.1.trans (h2.1.trans (h0.1.trans h1.1)), h3.2.trans (h2.2.trans (h0.2.trans h1.2))⟩
theorem itrs_mem {hl : Nat} : ∀ {l : List HE} {i j s last : Nat} {seen : List Nat}, itrsOK hl l = true → l[j]? = some (.itr i s seen last) → i < hl
  | [], _, _, _, _, _, _, h => by simp at h
  | e :: r, i, 0, s, last, seen, h, hj => by
    simp only [List.getElem?_cons_zero, Option.some.injEq] at hj
    subst hj
    simp only [itrsOK] at h
    cases hb : Nat.blt i hl with
    | true => exact Nat.le_of_ble_eq_true hb
    | false => rw [hb] at h; cases h
  | e :: r, i, j + 1, s, last, seen, h, hj => by
    have hr : itrsOK hl r = true := by
      cases e with
      | itr q _ _ _ =>
        simp only [itrsOK] at h
        cases hb : Nat.blt q hl with
        | true => rw [hb] at h; exact h
        | false => rw [hb] at h; cases h
      | _ => exact h
    exact itrs_mem hr (by simpa using hj)
theorem clean_sound0 {c : Cl} {st st' : St} {a : Act} {w : World} (h : StR X s st a w) (hc : (match cleanV c st with | some p => some (mkSt st.n st.v0 c.keep p.1 p.2) | none => none) = some st') : StR X s st' a w := by
  unfold cleanV at hc
  cases hcond2 : (Nat.ble st.v0.length (c.cut st) && itrsOK (c.cut st) (st.heap.take (c.cut st))) with
  | false => rw [hcond2] at hc; simp at hc
  | true =>
    rw [hcond2] at hc
    simp only [cond_true, Option.some.injEq] at hc
    subst hc
    rw [Bool.and_eq_true] at hcond2
    obtain ⟨hcond, hitr⟩ := hcond2
    have hle0 := Nat.le_of_ble_eq_true hcond
    have hle1 : c.cut st ≤ st.heap.length := by
      unfold Cl.cut
      cases hb : Nat.ble c.hl st.heap.length with
      | false => exact Nat.le_refl _
      | true => exact Nat.le_of_ble_eq_true hb
    obtain ⟨ρ, h1, h2, h3, h4, h5, h6, h7, h8, h9⟩ := h
    let h' := meetHeap st.heap (newVer c.bump st.v0) (c.cut st) (st.heap.take (c.cut st)) 0
    have hlen' : h'.length = (c.cut st) := by simp only [h', meetHeap_length, List.length_take]; omega
    have get' : ∀ i e, h'[i]? = some e → i < (c.cut st) ∧ ∃ e0, st.heap[i]? = some e0 ∧ e = (match e0 with
        | .blk cs => .blk (cs.map (AV.meet st.heap (newVer c.bump st.v0) (c.cut st)))
        | .lst t e nl g l => .lst t e nl (newVer c.bump st.v0 i g) l
        | .dead 0 => .dead 0
        | .dead g => .dead (newVer c.bump st.v0 i g)
        | e => e) := fun i e he => by
      have hi : i < (c.cut st) := by rw [← hlen']; exact (List.getElem?_eq_some_iff.1 he).1
      obtain ⟨e0, k1, k2⟩ := meetHeap_get _ _ _ _ _ _ _ he
      rw [List.getElem?_take, if_pos hi] at k1
      rw [Nat.zero_add] at k2
      exact ⟨hi, e0, k1, k2⟩
    have rho' : ∀ i, i < (c.cut st) → (ρ.take (c.cut st))[i]? = ρ[i]? := fun i hi => by rw [List.getElem?_take, if_pos hi]
    have own' : ∀ b, owned X (ρ.take (c.cut st)) b → owned X ρ b := fun b ho => by
      rcases ho with hX | ⟨r, hrm, hn⟩
      · exact .inl hX
      · exact .inr ⟨r, List.mem_of_mem_take hrm, hn⟩
    have rc : ∀ {t : Ty} {x : t.den} {cs : List Value}, RC (owned X ρ) w t x cs → RC (owned X (ρ.take (c.cut st))) w t x cs := fun hr => RC_mono (fun _ _ _ => rfl) (fun b _ ho => own' b ho) _ _ _ hr
    have nowLst : ∀ i g, nowAt st.heap (c.cut st) i g = true → i < (c.cut st) ∧ ∃ (t : Ty) (ty : TypeId) (nl : Bool) (l : List t.den), st.heap[i]? = some (.lst t ty nl g l) := fun i g hn => by
      unfold nowAt at hn
      cases hlt : Nat.blt i (c.cut st) with
      | false => rw [hlt] at hn; simp at hn
      | true =>
        rw [hlt] at hn
        simp only [cond_true] at hn
        split at hn
        · rename_i t ty nl g' l hi
          obtain rfl := Nat.eq_of_beq_eq_true hn
          exact ⟨Nat.le_of_ble_eq_true hlt, t, ty, nl, l, hi⟩
        · simp at hn
    have ent' : ∀ i, i < (c.cut st) → ∃ e, h'[i]? = some e := fun i hi => ⟨h'[i]'(by rw [hlen']; exact hi), by simp [hlen', hi]⟩
    have m0 : ∀ {c0 : AV} {v : Value}, VR X w ρ st.heap c0 v → VR X w (ρ.take (c.cut st)) h' (c0.meet0 st.heap (newVer c.bump st.v0) (c.cut st)) v := fun {c0 v} hv => by
      cases hv with
      | int k n => exact .int k n
      | bool b => exact .bool b
      | str b => exact .str b
      | nils => exact .nils
      | lit v => exact .lit v
      | sl hr => exact .sl (rc hr)
      | slz hz => exact .slz hz
      | @own i g v he hg ha hs =>
        simp only [AV.meet0]
        cases hn : nowAt st.heap (c.cut st) i g with
        | false => exact .junk _
        | true =>
          obtain ⟨hi, t, ty, nl, l, hlst⟩ := nowLst i g hn
          obtain ⟨e, he'⟩ := ent' i hi
          obtain ⟨_, e0, k1, k2⟩ := get' i e he'
          rw [hlst] at k1
          obtain rfl := Option.some.inj k1
          simp only [cond_true]
          refine .own ⟨e, he', by rw [k2]; exact Nat.le_refl _⟩ (newVer_pos _ _ _ hg) (fun _ _ _ _ _ => ?_) hs
          rw [rho' i hi]; exact ha _ _ _ _ hlst
      | @ptr i b off hr =>
        simp only [AV.meet0]
        cases hn : Nat.blt i (c.cut st) with
        | false => exact .junk _
        | true =>
          have hi : i < (c.cut st) := Nat.le_of_ble_eq_true hn
          simp only [cond_true]
          exact .ptr (by rw [rho' i hi]; exact hr)
      | @mpv i b hr =>
        simp only [AV.meet0]
        cases hn : Nat.blt i (c.cut st) with
        | false => exact .junk _
        | true =>
          have hi : i < (c.cut st) := Nat.le_of_ble_eq_true hn
          simp only [cond_true]
          exact .mpv (by rw [rho' i hi]; exact hr)
      | @bs i b off n cp hr =>
        simp only [AV.meet0]
        cases hn : Nat.blt i (c.cut st) with
        | false => exact .junk _
        | true =>
          have hi : i < (c.cut st) := Nat.le_of_ble_eq_true hn
          simp only [cond_true]
          exact .bs (by rw [rho' i hi]; exact hr)
      | @eptr i g sz k off ad he hg ha =>
        simp only [AV.meet0]
        cases hn : nowAt st.heap (c.cut st) i g with
        | false => exact .junk _
        | true =>
          obtain ⟨hi, t, ty, nl, l, hlst⟩ := nowLst i g hn
          obtain ⟨e, he'⟩ := ent' i hi
          obtain ⟨_, e0, k1, k2⟩ := get' i e he'
          rw [hlst] at k1
          obtain rfl := Option.some.inj k1
          simp only [cond_true]
          refine .eptr ⟨e, he', by rw [k2]; exact Nat.le_refl _⟩ (newVer_pos _ _ _ hg) (fun _ _ _ _ _ => ?_)
          rw [rho' i hi]; exact ha _ _ _ _ hlst
      | ro hO hb hc hr => exact .ro (fun ho => hO (own' _ ho)) hb hc (rc hr)
      | agg _ _ => exact .junk _
      | tup _ _ => exact .junk _
      | fn _ _ _ _ => exact .junk _
      | junk v => exact .junk v
      | vw _ _ _ => exact .junk _
    have m : ∀ {c0 : AV} {v : Value}, VR X w ρ st.heap c0 v → VR X w (ρ.take (c.cut st)) h' (c0.meet st.heap (newVer c.bump st.v0) (c.cut st)) v := fun hv => meet_map m0 hv
    refine ⟨ρ.take (c.cut st), ⟨?_, fun i e he => ?_, fun i j r r' n hi hj hn hn' => ?_, fun i r n hi hn => ?_, h1.ext⟩, fun t => ?_, h3, h4, ?_, h6, h7, h8, h9⟩
    · show (ρ.take (c.cut st)).length = h'.length
      rw [hlen', List.length_take, h1.len]; omega
    · obtain ⟨hi, e0, k1, rfl⟩ := get' i e he
      obtain ⟨r, hr, hher⟩ := h1.ent i e0 k1
      refine ⟨r, by rw [rho' i hi]; exact hr, ?_⟩
      cases hher with
      | blk hb hl hh => exact .blk hb (by simpa using hl) (fun i c v hc hv => by obtain ⟨x, hx, rfl⟩ := map_at hc; exact m (hh i x v hx hv))
      | lst hg ho hn hh => exact .lst (newVer_pos _ _ _ hg) ho hn (fun i y hy => rc (hh i y hy))
      | dead g => cases g <;> exact .dead _
      | mp hb hl hh hc => exact .mp hb hl (fun i d e hd he => by
          obtain ⟨k1, k2, k3⟩ := hh i d e hd he
          exact ⟨k1, ⟨rc k2.1, k2.2⟩, ⟨rc k3.1, k3.2⟩⟩) hc
      | itr hri hb =>
        have hlt := itrs_mem hitr (by rw [List.getElem?_take, if_pos hi]; exact k1)
        exact .itr (by rw [rho' _ hlt]; exact hri) hb
    · have q : ∀ (i : Nat) (r : RL), (ρ.take (c.cut st))[i]? = some r → ρ[i]? = some r := fun i r hi => by
        rw [List.getElem?_take] at hi
        split at hi
        · exact hi
        · simp at hi
      exact h1.dist i j r r' n (q i r hi) (q j r' hj) hn hn'
    · rw [List.getElem?_take] at hi
      split at hi
      · exact h1.lo i r n hi hn
      · simp at hi
    · -- slots
      show VR X w (ρ.take (c.cut st)) h' (look (zipK c.keep (c.keep.map fun i => (look st.env i).meet st.heap (newVer c.bump st.v0) (c.cut st))) t) _
      rw [zipK_map]
      have : look (c.keep.map fun i => (i, (look st.env i).meet st.heap (newVer c.bump st.v0) (c.cut st))) t = .junk ∨ look (c.keep.map fun i => (i, (look st.env i).meet st.heap (newVer c.bump st.v0) (c.cut st))) t = (look st.env t).meet st.heap (newVer c.bump st.v0) (c.cut st) := by
        induction c.keep with
        | nil => exact .inl rfl
        | cons k ks ih =>
          simp only [List.map_cons, look]
          cases hb : Nat.beq k t with
          | true => have := Nat.eq_of_beq_eq_true hb; subst this; exact .inr rfl
          | false => exact ih
      rcases this with e | e <;> rw [e]
      · exact .junk _
      · exact m (h2 t)
    · -- from the beginning on
      have hlen0 : st.v0.length = s.h.length := by rw [h8, List.length_map]
      refine ⟨h5.size, h5.blk, fun b hb ho => h5.own b hb (own' b ho), fun i e he => ?_, fun i e t ty nl g l he hl => ?_, fun i b hi => ?_⟩
      · have hi : i < (c.cut st) := by have := (List.getElem?_eq_some_iff.1 he).1; omega
        obtain ⟨e', he', hle⟩ := h5.ent i e he
        obtain ⟨e'', he''⟩ := ent' i hi
        refine ⟨e'', he'', ?_⟩
        obtain ⟨_, e0, k1, k2⟩ := get' i e'' he''
        rw [he'] at k1
        obtain rfl := Option.some.inj k1
        have hv : ∀ g, newVer c.bump st.v0 i g = e.ver + 1 ∨ (newVer c.bump st.v0 i g = e.ver ∧ g = e.ver) := fun g => newVer_at (by rw [h8, List.getElem?_map, he]; rfl)
        rw [k2]
        cases e' with
        | blk cs => simpa [HE.ver] using hle
        | mp _ _ _ _ _ _ => simpa [HE.ver] using hle
        | itr _ _ _ _ => simpa [HE.ver] using hle
        | lst t ty nl g l => show e.ver ≤ newVer c.bump st.v0 i g; have := hv g; omega
        | dead g =>
          cases g with
          | zero => exact hle
          | succ g => show e.ver ≤ newVer c.bump st.v0 i (g + 1); have := hv (g + 1); omega
      · have hi : i < (c.cut st) := by have := (List.getElem?_eq_some_iff.1 he).1; omega
        obtain ⟨_, e0, k1, k2⟩ := get' i _ hl
        have hv : ∀ g, newVer c.bump st.v0 i g = e.ver + 1 ∨ (newVer c.bump st.v0 i g = e.ver ∧ g = e.ver) := fun g => newVer_at (by rw [h8, List.getElem?_map, he]; rfl)
        cases e0 with
        | blk cs => simp at k2
        | lst t0 ty0 nl0 g0 l0 =>
          simp only [HE.lst.injEq] at k2
          rcases hv g0 with h10 | ⟨h10, h11⟩
          · left
            rw [k2.2.2.2.1]
            omega
          · have h12 := h5.lst i e t0 ty0 nl0 g0 l0 he k1
            rcases h12 with h12 | ⟨⟨t1, ty1, nl1, l1, h13⟩, h14⟩
            · omega
            · right
              refine ⟨⟨t1, ty1, nl1, l1, by rw [h13, k2.2.2.2.1, h10, ← h11]⟩, by rw [rho' i hi]; exact h14⟩
        | dead g => cases g <;> simp at k2
        | mp _ _ _ _ _ _ => simp at k2
        | itr _ _ _ _ => simp at k2
      · have hi' : i < (c.cut st) := by have := (List.getElem?_eq_some_iff.1 hi).1; omega
        rw [rho' i hi']
        exact h5.rb i b hi

theorem clean_sound {c : Cl} {st st' : St} {a : Act} {w : World} (h : StR X s st a w) (hc : clean c st = some st') : StR X s st' a w := by
  unfold clean at hc
  have hs := prep_same c st
  refine clean_sound0 (reserve_sound ((bif c.pad then c.hl else 0) - (demC c.dmc (demE c.dm (canonC c.swc (canon c.sw st)))).heap.length) (demC_sound c.dmc (demE_sound c.dm (canonC_sound c.swc (canon_sound c.sw h))))) (c := c) ?_
  show (match cleanV c (prep c st) with | some p => some (mkSt (prep c st).n (prep c st).v0 c.keep p.1 p.2) | none => none) = some st'
  rw [hs.1, hs.2]
  exact hc
theorem adopt_one {st : St} {a : Act} {w : World} (h : StR X s st a w) (τ : Ty) (e : TypeId) : StR X s { st with heap := st.heap ++ [.lst τ e true 1 []] } a w ∧
    ∀ ρ, HeapR X w ρ s.base st.heap → VR X w (ρ ++ [.s (.slice none 0 0)]) (st.heap ++ [.lst τ e true 1 []]) (.own st.heap.length 1) (.slice none 0 0) := by
  have own : ∀ ρ, HeapR X w ρ s.base st.heap → VR X w (ρ ++ [.s (.slice none 0 0)]) (st.heap ++ [.lst τ e true 1 []]) (.own st.heap.length 1) (.slice none 0 0) := fun ρ h1 =>
    .own ⟨.lst τ e true 1 [], by simp, Nat.le_refl _⟩ (Nat.le_refl _) (fun _ _ _ _ _ => by rw [← h1.len]; simp) ⟨_, _, _, rfl⟩
  obtain ⟨ρ, h1, h2, h3, h4, h5, h6⟩ := h
  obtain ⟨k1, f⟩ := grow h1 (e := .lst τ e true 1 []) (rl := .s (.slice none 0 0)) (fun n hn => by simp [RL.block, vblock] at hn) (fun _ => .lst (Nat.le_refl _) (rowOf.nil _ _ _ _) (by simp) (by simp))
  exact ⟨⟨_, k1, EnvR_fwd f h2, h3, h4, h5.trans f, h6⟩, own⟩
theorem adoptEnv_sound : ∀ (l : List (Nat × Ty × TypeId)) {st st' : St} {a : Act} {w : World}, StR X s st a w → adoptEnv l st = some st' → StR X s st' a w
  | [], st, st', a, w, h, hc => by simp only [adoptEnv, Option.some.injEq] at hc; subst hc; exact h
  | (i, τ, e) :: r, st, st', a, w, h, hc => by
    simp only [adoptEnv] at hc
    split at hc
    · rename_i hl
      refine adoptEnv_sound r ?_ hc
      obtain ⟨_, own⟩ := adopt_one h τ e
      obtain ⟨ρ, h1, h2, h3, h4, h5, h6⟩ := h
      obtain ⟨k1, f⟩ := grow h1 (e := .lst τ e true 1 []) (rl := .s (.slice none 0 0)) (fun n hn => by simp [RL.block, vblock] at hn) (fun _ => .lst (Nat.le_refl _) (rowOf.nil _ _ _ _) (by simp) (by simp))
      have hv := h2 i
      rw [hl] at hv
      exact ⟨_, k1, EnvR_know (EnvR_fwd f h2) (by rw [inv_nils hv]; exact own ρ h1), h3, h4, h5.trans f, h6⟩
    · exact adoptEnv_sound r h hc
theorem adoptCells_sound : ∀ (l : List (Nat × Nat × Ty × TypeId)) {st st' : St} {a : Act} {w : World}, StR X s st a w → adoptCells l st = some st' → StR X s st' a w
  | [], st, st', a, w, h, hc => by simp only [adoptCells, Option.some.injEq] at hc; subst hc; exact h
  | (id, j, τ, e) :: r, st, st', a, w, h, hc => by
    simp only [adoptCells] at hc
    split at hc
    · rename_i cs hid
      split at hc
      · rename_i hj
        refine adoptCells_sound r ?_ hc
        obtain ⟨_, own⟩ := adopt_one h τ e
        obtain ⟨ρ, h1, h2, h3, h4, h5, h6, h7, h8⟩ := h
        obtain ⟨k1, f⟩ := grow h1 (e := .lst τ e true 1 []) (rl := .s (.slice none 0 0)) (fun n hn => by simp [RL.block, vblock] at hn) (fun _ => .lst (Nat.le_refl _) (rowOf.nil _ _ _ _) (by simp) (by simp))
        have hown := own ρ h1
        obtain ⟨rl, hrl, hher⟩ := k1.ent id _ (append_some hid)
        obtain ⟨n, rfl⟩ := her_blk hher
        have hlt : id < st.heap.length := (List.getElem?_eq_some_iff.1 hid).1
        obtain ⟨g1, g2, g3, g4⟩ := set_entry k1 (append_some hid) hrl (e := .blk (cs.set j (.own st.heap.length 1))) (rl := .b n) (w' := w) h7 (Nat.le_refl _) (fun _ _ _ => rfl) (fun m hm => ⟨.inl hm, (k1.lo _ _ m hrl hm).2⟩) (Nat.le_refl _)
          (fun _ _ _ _ _ he => by cases he) (fun _ he => he) (fun f' => by
            cases hher with
            | blk hb hl hh =>
              refine .blk hb (by simpa using hl) (fun i c v hc hv => VR_fwd f' ?_)
              by_cases hij : j = i
              · subst hij
                have hjl : j < cs.length := (List.getElem?_eq_some_iff.1 hj).1
                rw [List.getElem?_set_self hjl] at hc
                obtain rfl := Option.some.inj hc
                have := hh j _ v hj hv
                rw [inv_nils this]; exact hown
              · rw [List.getElem?_set_ne hij] at hc; exact hh i c v hc hv)
        rw [← List.set_append_left _ _ hlt]
        exact ⟨_, g1, EnvR_fwd (f.trans g2) h2, h3, h4, (h5.trans f).trans g2, h6, h7, h8⟩
      · exact adoptCells_sound r h hc
    · exact adoptCells_sound r h hc
theorem adoptEnv_same : ∀ (l : List (Nat × Ty × TypeId)) {st st' : St}, adoptEnv l st = some st' → st'.n = st.n ∧ st'.v0 = st.v0
  | [], st, st', hc => by simp only [adoptEnv, Option.some.injEq] at hc; subst hc; exact ⟨rfl, rfl⟩
  | (i, τ, e) :: r, st, st', hc => by
    simp only [adoptEnv] at hc
    split at hc
    · have h := adoptEnv_same r hc; exact ⟨h.1, h.2⟩
    · have h := adoptEnv_same r hc; exact ⟨h.1, h.2⟩
theorem adoptCells_same : ∀ (l : List (Nat × Nat × Ty × TypeId)) {st st' : St}, adoptCells l st = some st' → st'.n = st.n ∧ st'.v0 = st.v0
  | [], st, st', hc => by simp only [adoptCells, Option.some.injEq] at hc; subst hc; exact ⟨rfl, rfl⟩
  | (id, j, τ, e) :: r, st, st', hc => by
    simp only [adoptCells] at hc
    split at hc
    · split at hc
      · have h := adoptCells_same r hc; exact ⟨h.1, h.2⟩
      · have h := adoptCells_same r hc; exact ⟨h.1, h.2⟩
    · have h := adoptCells_same r hc; exact ⟨h.1, h.2⟩
theorem enter_sound {c : Cl} {st : St} {p : List AV × List HE} {a : Act} {w : World} (h : StR X s st a w) (hc : enterV c st = some p) : StR X s (mkSt st.n st.v0 c.keep p.1 p.2) a w := by
  unfold enterV at hc
  split at hc
  · rename_i s1 h1
    split at hc
    · rename_i s2 h2
      have e1 := adoptEnv_same _ h1
      have e2 := adoptCells_same _ h2
      have h3 := clean_sound (c := c) (st' := mkSt s2.n s2.v0 c.keep p.1 p.2) (adoptCells_sound _ (adoptEnv_sound _ h h1) h2) (by simp only [clean, hc])
      rw [e2.1, e2.2, e1.1, e1.2] at h3
      exact h3
    · simp at hc
  · simp at hc

/-- What is told beside is what the code says. -/
def CutsOK (T : Tab) (F : PT) (C : CallK R) (O : CutK R) (c : Code) (hi : Hint) : Prop := ∀ x ∈ obs c hi, ObOK T F C O x
def exOf : EX → Exit
  | .normal => .normal
  | .exit id => .exit id
  | .ret => .ret
theorem back_sound {c : Cl} {st st' : St} {a : Act} {w : World} (h : StR X s st a w) (hc : backC c st = some st') : StR X s st' a w := by
  unfold backC at hc
  split at hc
  · rename_i s1 h1
    split at hc
    · rename_i s2 h2
      exact clean_sound (adoptCells_sound _ (adoptEnv_sound _ h h1) h2) hc
    · cases hc
  · cases hc
theorem iter_sound {cl cx : Cl} {c : Code} {body : St → (EX → St → Option R) → Option R} {K : EX → St → Option R} {r : R} {Q : Exit → Act → World → Prop}
    (hbody : ∀ (K' : EX → St → Option R) (Q' : Exit → Act → World → Prop) st a w, body st K' = some r → StR X s st a w → (∀ e st' a' w', K' e st' = some r → StR X s st' a' w' → Q' (exOf e) a' w') → c.wp P Q' a w)
    (hq : ∀ e st' a' w', K e st' = some r → StR X s st' a' w' → Q (exOf e) a' w') : ∀ (k : Nat) (st : St) (a : Act) (w : World), iter cl cx body k st K = some r → StR X s st a w → Code.rounds P c Q k a w
  | 0, _, _, _, hk, _ => by simp [iter] at hk
  | k + 1, st, a, w, hk, hst => by
    rw [rounds_succ]
    simp only [iter] at hk
    refine hbody _ _ st a w hk hst (fun e st' a' w' hk' hst' => ?_)
    cases e with
    | normal =>
      simp only at hk'
      obtain ⟨st2, h1, h2⟩ := optb_some hk'
      exact iter_sound hbody hq k st2 a' w' h2 (back_sound hst' h1)
    | exit id => obtain ⟨st2, h1, h2⟩ := optb_some hk'; exact hq _ _ _ _ h2 (clean_sound hst' h1)
    | ret => obtain ⟨st2, h1, h2⟩ := optb_some hk'; exact hq _ _ _ _ h2 (clean_sound hst' h1)
theorem unr_sound {c : Code} {body : St → (EX → St → Option R) → Option R} {K : EX → St → Option R} {r : R} {Q : Exit → Act → World → Prop}
    (hbody : ∀ (K' : EX → St → Option R) (Q' : Exit → Act → World → Prop) st a w, body st K' = some r → StR X s st a w → (∀ e st' a' w', K' e st' = some r → StR X s st' a' w' → Q' (exOf e) a' w') → c.wp P Q' a w)
    (hq : ∀ e st' a' w', K e st' = some r → StR X s st' a' w' → Q (exOf e) a' w') : ∀ (k : Nat) (st : St) (a : Act) (w : World), unr body k st K = some r → StR X s st a w → Code.rounds P c Q k a w
  | 0, _, _, _, hk, _ => by simp [unr] at hk
  | k + 1, st, a, w, hk, hst => by
    rw [rounds_succ]
    simp only [unr] at hk
    refine hbody _ _ st a w hk hst (fun e st' a' w' hk' hst' => ?_)
    cases e with
    | normal => exact unr_sound hbody hq k st' a' w' hk' hst'
    | exit id => exact hq _ _ _ _ hk' hst'
    | ret => exact hq _ _ _ _ hk' hst'
theorem ev_sound (hm : P.follows .mixedOrders = true) (hT : TabOK P T) (hF : FOK P T F) (hG : GOK X s T) (hC : COK X s.base P T C) {r : R} : ∀ (c : Code) (hi : Hint) (K : EX → St → Option R) (Q : Exit → Act → World → Prop) (st : St) (a : Act) (w : World), CutsOK T F C O c hi → ev T F C O c hi st K = some r → StR X s st a w →
    (∀ e st' a' w', K e st' = some r → StR X s st' a' w' → Q (exOf e) a' w') → c.wp P Q a w
  | .skip, hi, K, Q, st, a, w, hcut, hk, hst, hq => wp_skip (hq .normal st a w hk hst)
  | .label _, hi, K, Q, st, a, w, hcut, hk, hst, hq => wp_label (hq .normal st a w hk hst)
  | .exit id, hi, K, Q, st, a, w, hcut, hk, hst, hq => wp_exit (hq (.exit id) st a w hk hst)
  | .ret, hi, K, Q, st, a, w, hcut, hk, hst, hq => wp_ret (hq .ret st a w hk hst)
  | .region id ops draw, hi, K, Q, st, a, w, hcut, hk, hst, hq => by
    simp only [ev] at hk
    cases draw with
    | true =>
      simp only [cond_true] at hk
      split at hk
      · exact flo_sound hT hF hG hC hm (fun st a w h1 h2 => hq .normal st a w h1 h2) hk (reserve_sound _ hst)
      have h2 := cond_some hk
      exact draw_sound hT hF hG hC hm (fun st a w h1 h2 => hq .normal st a w h1 h2) h2.1 h2.2 (reserve_sound _ hst)
    | false =>
      refine wp_region ?_
      have := opsK_sound hT hF hG hC (ops := ops) (Q := Q) (K := K .normal) (fun st a w h1 h2 => hq .normal st a w h1 h2) ops.toList 0 _ _ a w (List.drop_zero) hk (reserve_sound _ hst)
      rw [Array.length_toList] at this
      rwa [List.range_eq_range']
  | .seq x y, hi, K, Q, st, a, w, hcut, hk, hst, hq => by
    simp only [ev] at hk
    refine wp_seq (ev_sound hm hT hF hG hC x hi.l _ _ st a w (fun q hq' => hcut q (by simp only [obs, List.mem_append]; exact .inl hq')) hk hst (fun e st' a' w' hk' hst' => ?_))
    cases e with
    | normal =>
      simp only at hk'
      have h3 : CutsOK T F C O y hi.r := fun q hq' => hcut q (by simp only [obs, List.mem_append]; exact .inr (.inr hq'))
      split at hk'
      · rename_i c cx i a b
        obtain ⟨p, k1, k2⟩ := optb_some hk'
        have h2 : ObOK T F C O (.join c cx i y (Hint.ct c cx i a b).r) := hcut _ (by simp only [obs, List.mem_append, List.mem_singleton]; exact .inr (.inl trivial))
        exact ev_sound hm hT hF hG hC y _ _ Q _ a' w' h3 (h2 K _ _ _ _ r k2) (enter_sound hst' k1) (fun e st2 a2 w2 hk2 hst2 => by
          obtain ⟨st3, g1, g2⟩ := optb_some hk2
          exact hq e st3 a2 w2 g2 (clean_sound hst2 g1))
      · exact ev_sound hm hT hF hG hC y _ K Q st' a' w' h3 hk' hst' hq
    | exit id => exact hq _ _ _ _ hk' hst'
    | ret => exact hq _ _ _ _ hk' hst'
  | .cond c x y, hi, K, Q, st, a, w, hcut, hk, hst, hq => by
    simp only [ev] at hk
    split at hk
    · rename_i d
      split at hk
      · rename_i t hl
        have hc : a.eval (.tmp d) = .bool t := by
          show a.tmps.getD d undef = .bool t
          rw [Array.getD_eq_getD_getElem?, StR.bool hst hl]; rfl
        cases t with
        | true => exact wp_cond_true hc (ev_sound hm hT hF hG hC x _ K Q _ a w (fun q hq' => hcut q (by simp only [obs, List.mem_append]; exact .inl hq')) (pr_some hk) (StR.know hst hl) hq)
        | false => exact wp_cond_false hc (ev_sound hm hT hF hG hC y _ K Q _ a w (fun q hq' => hcut q (by simp only [obs, List.mem_append]; exact .inr hq')) (pr_some hk) (StR.know hst hl) hq)
      · simp at hk
    · rename_i t
      cases t with
      | true => exact wp_cond_true rfl (ev_sound hm hT hF hG hC x _ K Q _ a w (fun q hq' => hcut q (by simp only [obs, List.mem_append]; exact .inl hq')) hk hst hq)
      | false => exact wp_cond_false rfl (ev_sound hm hT hF hG hC y _ K Q _ a w (fun q hq' => hcut q (by simp only [obs, List.mem_append]; exact .inr hq')) hk hst hq)
    · simp at hk
  | .block id c, hi, K, Q, st, a, w, hcut, hk, hst, hq => by
    simp only [ev] at hk
    refine wp_block (ev_sound hm hT hF hG hC c hi _ _ st a w hcut hk hst (fun e st' a' w' hk' hst' => ?_))
    cases e with
    | normal => exact hq _ _ _ _ hk' hst'
    | ret => exact hq _ _ _ _ hk' hst'
    | exit j =>
      simp only [exOf, Exit.inBlock]
      simp only at hk'
      cases hb : Nat.beq j id with
      | true =>
        rw [hb] at hk'
        rw [if_pos (Nat.eq_of_beq_eq_true hb)]
        exact hq .normal _ _ _ hk' hst'
      | false =>
        rw [hb] at hk'
        rw [if_neg (Nat.ne_of_beq_eq_false hb)]
        exact hq (.exit j) _ _ _ hk' hst'
  | .loop c, hi, K, Q, st, a, w, hcut, hk, hst, hq => by
    simp only [ev] at hk
    cases hi with
    | lp cl cx i h =>
      simp only at hk
      obtain ⟨p, h1, h2⟩ := optb_some hk
      have hob : ObOK T F C O (.loop cl cx i c h) := hcut _ (by simp only [obs, List.mem_cons]; exact .inl trivial)
      obtain ⟨k, h3⟩ := hob K _ _ _ _ r h2
      exact wp_loop_rounds k (iter_sound (fun K' Q' st a w h1 h2 h3 => ev_sound hm hT hF hG hC c h K' Q' st a w (fun q hq' => hcut q (by simp only [obs, List.mem_cons]; exact .inr hq')) h1 h2 h3) hq k _ a w h3 (enter_sound hst h1))
    | un n h =>
      simp only at hk
      exact wp_loop_rounds n (unr_sound (fun K' Q' st a w h1 h2 h3 => ev_sound hm hT hF hG hC c h K' Q' st a w (fun q hq' => hcut q (by simp only [obs]; exact hq')) h1 h2 h3) hq n _ a w hk hst)
    | _ => simp at hk
  | .rangeFunc _ _ _ _, hi, K, Q, st, a, w, hcut, hk, hst, hq => by simp [ev] at hk
  | .scope _, hi, K, Q, st, a, w, hcut, hk, hst, hq => by simp [ev] at hk
  | .goto _, hi, K, Q, st, a, w, hcut, hk, hst, hq => by simp [ev] at hk
  | .refuse _, hi, K, Q, st, a, w, hcut, hk, hst, hq => by simp [ev] at hk
end
end Go.Proofs.YtibdnfknokkadaaDoor.Ev
