/- Code: what the evaluator says of a body is what the model does. -/
import Derived.Test.YtibdnfknokkadaaDoorEvOpK
import Derived.LoopN
set_option linter.unusedVariables false
set_option linter.unusedSimpArgs false
namespace Go.Proofs.YtibdnfknokkadaaDoor.Ev
open Go Go.RowKit
variable {X : Nat → Prop}

/-- A call of it enters it. -/
def Ent (P : Program) (g : FuncId) : Prop := ∀ args (w : World), (callFunc g args).run P w = .ok (.enter g args) w
def unflatV : List (Bool × Nat) → List Value → List Value
  | [], _ => []
  | (true, n) :: r, cs => .agg (cs.take n).toArray :: unflatV r (cs.drop n)
  | (false, _) :: r, cs => match cs with
    | c :: cs => c :: unflatV r cs
    | [] => []
def shapeV : List (Bool × Nat) → List Value → List Value → Prop
  | [], cells, vs => cells = [] ∧ vs = []
  | (true, n) :: r, cells, vs => ∃ cs vs', vs = .agg cs :: vs' ∧ cs.size = n ∧ cells.take n = cs.toList ∧ shapeV r (cells.drop n) vs'
  | (false, _) :: r, cells, vs => ∃ v cells' vs', cells = v :: cells' ∧ vs = v :: vs' ∧ shapeV r cells' vs'
def oneOrTupV : List Value → Value
  | [v] => v
  | vs => .tuple vs.toArray
/-- What a function takes, in memory. -/
def RCP (O : Nat → Prop) (w : World) (p : PF) (x : p.τ.den) (cells : List Value) : Prop := match p.ps with
  | [] => True
  | _ => RC O w p.τ x cells
/-- What the program's variables that nothing writes to hold. -/
def GlR (X : Nat → Prop) (w : World) (ρ : Rho) (h : List HE) (T : Tab) : Prop := ∀ g x, T.gl g = some x → VR X w ρ h (.ro x.1 x.2 0) (.pointer (some ⟨g, 0, none⟩))
theorem GlR.fwd {w w' : World} {ρ ρ' : Rho} {h h' : List HE} {T : Tab} (f : Fwd X w ρ h w' ρ' h') (hg : GlR X w ρ h T) : GlR X w' ρ' h' T := fun g x hx => VR_fwd f (hg g x hx)
/-- The blocks of the results' new lists. -/
def FrB (fr : List (Option TypeId)) (vs : List Value) (k : Nat) : Prop := ∃ (j : Nat) (e : TypeId) (v : Value), fr[j]? = some (some e) ∧ vs[j]? = some v ∧ vblock v = some k
def CellR (O : Nat → Prop) (w : World) (base : Nat) (f : Option TypeId) (c : AV) (v : Value) : Prop := match f with
  | none => VR O w [] [] c v
  | some e => ∃ (τ : Ty) (nl : Bool) (l : List τ.den) (xs : List Value), c = .sl τ nl l ∧ rowOf w base e τ.size v l.length xs ∧ (v = .slice none 0 0 ↔ (nl && l.isEmpty) = true) ∧ ∀ (i : Nat) (y : τ.den), l[i]? = some y → RC O w τ y ((xs.drop (i * τ.size)).take τ.size)
structure ResR (O : Nat → Prop) (w w' : World) (fr : List (Option TypeId)) (cs : List AV) (vs : List Value) : Prop where
  len : cs.length = vs.length
  cell : ∀ (j : Nat) (c : AV) (v : Value), cs[j]? = some c → vs[j]? = some v → CellR (fun b => O b ∨ FrB fr vs b) w' w.heap.size (fr.getD j none) c v
  dist : ∀ (i j : Nat) (e e' : TypeId) (v v' : Value) (k : Nat), fr[i]? = some (some e) → fr[j]? = some (some e') → vs[i]? = some v → vs[j]? = some v' → vblock v = some k → vblock v' = some k → i = j
/-- A function makes of plain data what its telling says. -/
def PFOK (P : Program) (T : Tab) (g : FuncId) (p : PF) : Prop := ∀ (x : p.τ.den) (y : p.σ.den), p.f x = some y → ∀ (O : Nat → Prop) (w : World) (vs : Array Value) (cells : List Value),
  (∀ b, O b → b < w.heap.size) → GlR O w [] [] T → RCP O w p x cells → shapeV p.ps cells vs.toList →
    Calls P g vs w fun e w' => ∃ cs, e = .returned (oneOrTupV (unflatV p.rs cs)) ∧ ResR O w w' p.fr (p.σ.cells y) cs ∧ Below w.heap.size w w'

section
variable {R : Type} {w : World} {ρ : Rho} {base : Nat} {h : List HE} {P : Program} {T : Tab} {F : PT}
def flatsV : List Value → List Value
  | [] => []
  | v :: r => v.cells.toList ++ flatsV r
theorem flats_sound : ∀ (ps : List (Bool × Nat)) {args : List AV} {vs : List Value}, allOK (flats args) = true → fits ps args = true → VRs X w ρ h args vs → VRs X w ρ h (flats args) (flatsV vs) ∧ shapeV ps (flatsV vs) vs
  | [], args, vs, ho, hf, hv => by
    cases args with
    | nil =>
      have : vs = [] := List.eq_nil_of_length_eq_zero (by simpa using hv.1.symm)
      subst this
      exact ⟨.nil _ _ _, rfl, rfl⟩
    | cons => simp [fits] at hf
  | (true, n) :: r, args, vs, ho, hf, hv => by
    cases args with
    | nil => simp [fits] at hf
    | cons a args =>
      obtain ⟨v, vs', rfl, ha, hr⟩ := hv.uncons
      cases a with
      | agg cs =>
        simp only [fits] at hf
        have hlen : Nat.beq cs.length n = true ∧ fits r args = true := by
          cases hb : Nat.beq cs.length n <;> rw [hb] at hf <;> simp at hf
          exact ⟨rfl, hf⟩
        have hn := Nat.eq_of_beq_eq_true hlen.1
        have ho' : allOK cs = true ∧ allOK (flats args) = true := allOK_append (by simpa [flats, AV.flat] using ho)
        obtain ⟨h1, h2⟩ := flats_sound r ho'.2 hlen.2 hr
        obtain ⟨us, rfl, hl, hh⟩ := inv_agg ha
        refine ⟨VRs.append (c1 := cs) ⟨by simpa [Value.cells] using hl, fun i c v hc hv => hh i c v hc (by simpa [Value.cells] using hv)⟩ h1, us, vs', rfl, by omega, ?_, ?_⟩
        · simp only [flatsV, Value.cells]
          rw [List.take_append_of_le_length (by simp; omega), List.take_of_length_le (by simp; omega)]
        · simp only [flatsV, Value.cells]
          rw [List.drop_append, List.drop_eq_nil_of_le (by simp; omega), List.nil_append]
          have : n - us.toList.length = 0 := by simp; omega
          rw [this, List.drop_zero]
          exact h2
      | _ => simp [fits] at hf
  | (false, n) :: r, args, vs, ho, hf, hv => by
    cases args with
    | nil => simp [fits] at hf
    | cons a args =>
      obtain ⟨v, vs', rfl, ha, hr⟩ := hv.uncons
      have hna : ∀ cs, a ≠ .agg cs := fun cs e => by subst e; simp [fits] at hf
      have hfl : a.flat = [a] := by cases a <;> first | rfl | exact absurd rfl (hna _)
      have hf' : fits r args = true := by cases a <;> first | exact hf | exact absurd rfl (hna _)
      have ho' : allOK [a] = true ∧ allOK (flats args) = true := allOK_append (by rw [← hfl]; exact ho)
      have hc : cellOK a = true := allOK_mem ho'.1 a (by simp)
      obtain ⟨h1, h2⟩ := flats_sound r ho'.2 hf' hr
      obtain ⟨_, hcell⟩ := cell_one hc ha
      refine ⟨?_, v, flatsV vs', vs', by simp [flatsV, hcell], rfl, h2⟩
      simp only [flats, flatsV, hfl, hcell]
      exact VRs.append (.cons ha (.nil _ _ _)) h1
theorem unflat_sound : ∀ (rs : List (Bool × Nat)) {cs : List AV} {vs : List Value}, VRs X w ρ h cs vs → VRs X w ρ h (unflat rs cs) (unflatV rs vs)
  | [], _, _, _ => .nil _ _ _
  | (true, n) :: r, cs, vs, hv => .cons (.agg (by simp [hv.1]) (fun i c v hc hv' => (hv.take n).2 i c v hc (by simpa using hv'))) (unflat_sound r (hv.drop n))
  | (false, n) :: r, cs, vs, hv => by
    cases cs with
    | nil =>
      have : vs = [] := List.eq_nil_of_length_eq_zero (by simpa using hv.1.symm)
      subst this
      exact .nil _ _ _
    | cons c cs =>
      obtain ⟨v, vs', rfl, h1, h2⟩ := hv.uncons
      exact .cons h1 (unflat_sound r h2)
theorem oneOrTup_sound {cs : List AV} {vs : List Value} (hv : VRs X w ρ h cs vs) : VR X w ρ h (oneOrTup cs) (oneOrTupV vs) := by
  match cs, vs, hv with
  | [], [], hv => exact .tup rfl (by simp)
  | [c], [v], hv => exact hv.2 0 c v rfl rfl
  | c :: c' :: cs, v :: v' :: vs, hv => exact .tup (by simpa using hv.1) (fun i c v hc hv' => hv.2 i c v hc (by simpa using hv'))
  | [], _ :: _, hv => exact absurd hv.1 (by simp)
  | _ :: _, [], hv => exact absurd hv.1 (by simp)
  | [_], _ :: _ :: _, hv => exact absurd hv.1 (by simp)
  | _ :: _ :: _, [_], hv => exact absurd hv.1 (by simp)
theorem RC_noSl {O O' : Nat → Prop} : ∀ (t : Ty) (x : t.den) (c : List Value), t.noSl = true → RC O w t x c → RC O' w t x c
  | .int _, _, _, _, h => h
  | .bool, _, _, _, h => h
  | .str, _, _, _, h => h
  | .sl _, _, _, hn, _ => by simp [Ty.noSl] at hn
  | .pair a b, x, _, hn, h => by
    simp only [Ty.noSl, Bool.and_eq_true] at hn
    simp only [RC] at h ⊢
    obtain ⟨c1, c2, e, h1, h2⟩ := h
    exact ⟨c1, c2, e, RC_noSl a _ _ hn.1 h1, RC_noSl b _ _ hn.2 h2⟩
theorem closeP_sound (hh : HeapR X w ρ base h) {O' : Nat → Prop} (ho : ∀ b, O' b → owned X ρ b) {p : PF} {cs : List AV} {x : p.τ.den} {vs : List Value}
    (hc : p.closeP h cs = some x) (hk : ∀ i g, AV.own i g ∈ cs → ∀ r n, ρ[i]? = some r → r.block = some n → ¬ O' n) (hv : VRs X w ρ h cs vs) : RCP O' w p x vs := by
  unfold PF.closeP at hc
  unfold RCP
  split
  · trivial
  · split at hc
    · rename_i h1 _ h2; exact (h1 h2).elim
    · exact (closeAll_sound hh ho hc hk hv).1
theorem closeP_now {p : PF} {cs : List AV} {x : p.τ.den} (hc : p.closeP h cs = some x) : ∀ i g, AV.own i g ∈ cs → Now h i g := by
  unfold PF.closeP at hc
  split at hc
  · split at hc
    · intro i g hm; cases hm
    · cases hc
  · exact closeAll_now hc
/-- Data tell the same wherever what they must not lie in is less. -/
theorem VR_data {O : Nat → Prop} {ρ : Rho} {h : List HE} (ho : ∀ b, owned X ρ b → O b) {c : AV} {v : Value} (hv : VR O w [] [] c v) : VR X w ρ h c v := by
  have ho' : ∀ b, owned X ρ b → owned O [] b := fun b hb => .inl (ho b hb)
  induction hv with
  | int k n => exact .int k n
  | bool b => exact .bool b
  | str b => exact .str b
  | nils => exact .nils
  | lit v => exact .lit v
  | sl hr => exact .sl (RC_mono (fun _ _ _ => rfl) (fun b _ hb => ho' b hb) _ _ _ hr)
  | slz hz => exact .slz hz
  | own he _ _ _ => obtain ⟨e, he, _⟩ := he; simp at he
  | ptr hr => simp at hr
  | mpv hr => simp at hr
  | bs hr => simp at hr
  | eptr he _ _ => obtain ⟨e, he, _⟩ := he; simp at he
  | ro hO hb hc hr => exact .ro (fun h => hO (ho' _ h)) hb hc (RC_mono (fun _ _ _ => rfl) (fun b _ hb => ho' b hb) _ _ _ hr)
  | agg hl _ ih => exact .agg hl ih
  | tup hl _ ih => exact .tup hl ih
  | fn hl _ hl' _ ih ih' => exact .fn hl ih hl' ih'
  | junk v => exact .junk v
  | vw he _ _ => obtain ⟨e, he, _⟩ := he; simp at he
theorem rowOf.lt {w : World} {base : Nat} {e : TypeId} {size : Nat} {v : Value} {n : Nat} {xs : List Value} (h : rowOf w base e size v n xs) : ∀ k, vblock v = some k → base ≤ k ∧ k < w.heap.size := fun k hk => by
  rcases h with ⟨_, _, a, rfl⟩ | ⟨g, c, cur, ty, fz, rfl, h⟩
  · simp [vblock] at hk
  · simp only [vblock, Value.ownBlock, Option.some.injEq] at hk
    subst hk
    exact ⟨h.lo, h.lt⟩
theorem rowOf.low {w : World} {base base' : Nat} {e : TypeId} {size : Nat} {v : Value} {n : Nat} {xs : List Value} (h : rowOf w base e size v n xs) (hb : base' ≤ base) : rowOf w base' e size v n xs := by
  rcases h with h | ⟨g, c, cur, ty, fz, e1, h⟩
  · exact .inl h
  · exact .inr ⟨g, c, cur, ty, fz, e1, Nat.le_trans hb h.lo, h.here, h.kind, h.num, h.cap, h.len, h.tk⟩
theorem ResR.blk {O : Nat → Prop} {w w' : World} {fr : List (Option TypeId)} {cs : List AV} {vs : List Value} (hr : ResR O w w' fr cs vs) : ∀ k, FrB fr vs k → w.heap.size ≤ k ∧ k < w'.heap.size := fun k ⟨j, e, v, h1, h2, h3⟩ => by
  have hj : j < cs.length := by rw [hr.len]; exact (List.getElem?_eq_some_iff.1 h2).1
  have hc := hr.cell j _ v (List.getElem?_eq_getElem hj) h2
  rw [List.getD_eq_getElem?_getD, h1] at hc
  obtain ⟨τ, nl, l, xs, _, ho, _⟩ := hc
  exact ho.lt k h3
/-- New lists read as data. -/
theorem ResR.plain {O : Nat → Prop} {w w' : World} (hO : ∀ b, O b → b < w.heap.size) {fr : List (Option TypeId)} {cs : List AV} {vs : List Value} (hr : ResR O w w' fr cs vs) : ResR O w w' [] cs vs := by
  have hn : ∀ b, (O b ∨ FrB [] vs b) → O b := fun b h => by
    rcases h with h | ⟨j, e, v, h1, _⟩
    · exact h
    · simp at h1
  refine ⟨hr.len, fun j c v hc hv => ?_, fun i j e e' v v' k h1 => by simp at h1⟩
  have h0 := hr.cell j c v hc hv
  have e0 : ([] : List (Option TypeId)).getD j none = none := by simp
  rw [e0]
  cases hf : fr.getD j none with
  | none =>
    rw [hf] at h0
    exact VR_data (X := fun b => O b ∨ FrB [] vs b) (fun b hb => by
      rcases hb with hb | ⟨r, hr, _⟩
      · exact .inl (hn b hb)
      · simp at hr) h0
  | some e =>
    rw [hf] at h0
    obtain ⟨τ, nl, l, xs, rfl, ho, hnn, hel⟩ := h0
    have her : HER (fun b => O b ∨ FrB fr vs b) w' [] [] w.heap.size (.lst τ e nl 1 l) (.s v) := .lst (Nat.le_refl _) ho hnn (fun i y hy => RC_mono (fun _ _ _ => rfl) (fun b _ hb => by
      rcases hb with hb | ⟨r, hr, _⟩
      · exact hb
      · simp at hr) _ _ _ (hel i y hy))
    refine .sl (RC_own (O' := owned (fun b => O b ∨ FrB [] vs b) []) (fun b hb => ?_) her (fun n hv' hb => ?_))
    · rcases hb with hb | ⟨r, hr, _⟩
      · exact .inl (.inl (hn b hb))
      · simp at hr
    · have h1 := (ho.lt n hv').1
      rcases hb with hb | ⟨r, hr, _⟩
      · have := hO n (hn n hb); omega
      · simp at hr
/-! New lists get ids. -/
def updL {α : Type} : List (Nat × α) → List α → List α
  | [], h => h
  | (i, e) :: r, h => updL r (h.set i e)
theorem applyU_updL (u : Upd) : ∀ h : List HE, applyU u h = updL u h := by
  induction u with
  | nil => intro h; rfl
  | cons x u ih => intro h; exact ih _
theorem updL_length {α : Type} : ∀ (u : List (Nat × α)) (h : List α), (updL u h).length = h.length
  | [], h => rfl
  | (i, e) :: r, h => by simp [updL, updL_length r]
theorem updL_not {α : Type} {i : Nat} : ∀ (u : List (Nat × α)) (h : List α), i ∉ u.map (·.1) → (updL u h)[i]? = h[i]?
  | [], h, _ => rfl
  | (j, e) :: r, h, hi => by
    simp only [List.map_cons, List.mem_cons, not_or] at hi
    simp only [updL]
    rw [updL_not r _ hi.2, List.getElem?_set_ne (Ne.symm hi.1)]
theorem updL_mem {α : Type} {i : Nat} {e : α} : ∀ (u : List (Nat × α)) (h : List α), (u.map (·.1)).Pairwise (· < ·) → (i, e) ∈ u → i < h.length → (updL u h)[i]? = some e
  | [], _, _, hm, _ => by simp at hm
  | (j, e') :: r, h, hp, hm, hi => by
    simp only [List.map_cons, List.pairwise_cons] at hp
    simp only [updL]
    rcases List.mem_cons.1 hm with he | hm
    · simp only [Prod.mk.injEq] at he
      obtain ⟨rfl, rfl⟩ := he
      rw [updL_not r _ (fun hm => by have := hp.1 _ hm; omega), List.getElem?_set_self hi]
    · exact updL_mem r _ hp.2 hm (by simpa using hi)
/-- Id, place, entry, and where it lies. -/
def frZip : Nat → Nat → List (Option TypeId) → List AV → List Value → List (Nat × Nat × HE × RL)
  | nid, k, some e :: fs, .sl τ nl l :: cs, v :: vs => (nid, k, .lst τ e nl 1 l, .s v) :: frZip (nid + 1) (k + 1) fs cs vs
  | nid, k, none :: fs, _ :: cs, _ :: vs => frZip nid (k + 1) fs cs vs
  | _, _, _, _, _ => []
theorem frZip_spec : ∀ (fr : List (Option TypeId)) (nid k : Nat) (cs : List AV) (vs : List Value) (q : List AV × Upd), frCells nid fr cs = some q → cs.length = vs.length →
    q.2 = (frZip nid k fr cs vs).map (fun z => (z.1, z.2.2.1)) ∧
    (∀ z ∈ frZip nid k fr cs vs, nid ≤ z.1 ∧ z.1 < nid + frN fr ∧ k ≤ z.2.1 ∧ ∃ (e : TypeId) (τ : Ty) (nl : Bool) (l : List τ.den) (v : Value), fr[z.2.1 - k]? = some (some e) ∧ cs[z.2.1 - k]? = some (.sl τ nl l) ∧ vs[z.2.1 - k]? = some v ∧ z.2.2.1 = .lst τ e nl 1 l ∧ z.2.2.2 = .s v) ∧
    (frZip nid k fr cs vs).Pairwise (fun a b => a.1 < b.1 ∧ a.2.1 < b.2.1) ∧
    q.1.length = cs.length ∧ ∀ (j : Nat) (c : AV) (v : Value), q.1[j]? = some c → vs[j]? = some v → (fr.getD j none = none ∧ cs[j]? = some c) ∨ ∃ z ∈ frZip nid k fr cs vs, z.2.1 = k + j ∧ c = .own z.1 1 ∧ z.2.2.2 = .s v
  | [], nid, k, cs, vs, q, hq, hl => by
    simp only [frCells, Option.some.injEq] at hq
    subst hq
    have : frZip nid k [] cs vs = [] := by cases cs <;> cases vs <;> rfl
    rw [this]
    exact ⟨rfl, by simp, .nil, rfl, fun j c v hc _ => .inl ⟨by simp, hc⟩⟩
  | some e :: fs, nid, k, cs, vs, q, hq, hl => by
    cases cs with
    | nil => simp [frCells] at hq
    | cons c cs =>
      cases c with
      | sl τ nl l =>
        cases vs with
        | nil => simp at hl
        | cons v vs =>
          simp only [frCells] at hq
          split at hq
          · rename_i q' hq'
            simp only [Option.some.injEq] at hq
            subst hq
            obtain ⟨h1, h2, h3, h4, h5⟩ := frZip_spec fs (nid + 1) (k + 1) cs vs q' hq' (by simpa using hl)
            refine ⟨by simp [frZip, h1], fun z hz => ?_, ?_, by simp [h4], fun j c u hc hu => ?_⟩
            · simp only [frZip, List.mem_cons] at hz
              rcases hz with rfl | hz
              · exact ⟨Nat.le_refl _, by simp [frN], Nat.le_refl _, e, τ, nl, l, v, by simp, by simp, by simp, rfl, rfl⟩
              · obtain ⟨g1, g2, g3, e', τ', nl', l', v', g4, g5, g6, g7⟩ := h2 z hz
                have : z.2.1 - k = (z.2.1 - (k + 1)) + 1 := by omega
                refine ⟨by omega, by simp only [frN]; omega, by omega, e', τ', nl', l', v', ?_, ?_, ?_, g7⟩
                · rw [this]; simpa using g4
                · rw [this]; simpa using g5
                · rw [this]; simpa using g6
            · simp only [frZip, List.pairwise_cons]
              exact ⟨fun z hz => by have := h2 z hz; omega, h3⟩
            · cases j with
              | zero =>
                simp at hc hu
                subst hc; subst hu
                exact .inr ⟨_, by simp only [frZip, List.mem_cons]; exact .inl rfl, rfl, rfl, rfl⟩
              | succ j =>
                rcases h5 j c u (by simpa using hc) (by simpa using hu) with ⟨g1, g2⟩ | ⟨z, hz, g1, g2⟩
                · exact .inl ⟨by simpa using g1, by simpa using g2⟩
                · exact .inr ⟨z, by simp only [frZip, List.mem_cons]; exact .inr hz, by omega, g2⟩
          · simp at hq
      | _ => simp [frCells] at hq
  | none :: fs, nid, k, cs, vs, q, hq, hl => by
    cases cs with
    | nil => simp [frCells] at hq
    | cons c cs =>
      cases vs with
      | nil => simp at hl
      | cons v vs =>
        simp only [frCells] at hq
        split at hq
        · rename_i q' hq'
          simp only [Option.some.injEq] at hq
          subst hq
          obtain ⟨h1, h2, h3, h4, h5⟩ := frZip_spec fs nid (k + 1) cs vs q' hq' (by simpa using hl)
          refine ⟨by simp [frZip, h1], fun z hz => ?_, by simpa [frZip] using h3, by simp [h4], fun j c' u hc hu => ?_⟩
          · simp only [frZip] at hz
            obtain ⟨g1, g2, g3, e', τ', nl', l', v', g4, g5, g6, g7⟩ := h2 z hz
            have : z.2.1 - k = (z.2.1 - (k + 1)) + 1 := by omega
            refine ⟨by omega, by simp only [frN]; omega, by omega, e', τ', nl', l', v', ?_, ?_, ?_, g7⟩
            · rw [this]; simpa using g4
            · rw [this]; simpa using g5
            · rw [this]; simpa using g6
          · cases j with
            | zero =>
              simp at hc hu
              subst hc; subst hu
              exact .inl ⟨by simp, by simp⟩
            | succ j =>
              rcases h5 j c' u (by simpa using hc) (by simpa using hu) with ⟨g1, g2⟩ | ⟨z, hz, g1, g2⟩
              · exact .inl ⟨by simpa using g1, by simpa using g2⟩
              · exact .inr ⟨z, by simpa [frZip] using hz, by omega, g2⟩
        · simp at hq
theorem allFresh_at {h : List HE} : ∀ (n nid : Nat), allFresh h nid n = true → ∀ i, nid ≤ i → i < nid + n → fresh h i = true
  | 0, _, _, i, h1, h2 => by omega
  | n + 1, nid, hf, i, h1, h2 => by
    simp only [allFresh, Bool.and_eq_true] at hf
    by_cases hi : i = nid
    · subst hi; exact hf.1
    · exact allFresh_at n (nid + 1) hf.2 i (by omega) (by omega)
theorem res_sound (hh : HeapR X w ρ base h) (hb : base ≤ w.heap.size) {w' : World} (hbel : Below w.heap.size w w') {fr : List (Option TypeId)} {cs : List AV} {vs : List Value} {nid : Nat} {q : List AV × Upd}
    (hres : ResR (owned X ρ) w w' fr cs vs) (hq : frCells nid fr cs = some q) (hf : allFresh h nid (frN fr) = true) :
    ∃ ρ', HeapR X w' ρ' base (applyU q.2 h) ∧ VRs X w' ρ' (applyU q.2 h) q.1 vs ∧ Fwd X w ρ h w' ρ' (applyU q.2 h) := by
  obtain ⟨h1, h2, h3, h4, h5⟩ := frZip_spec fr nid 0 cs vs q hq hres.len
  generalize frZip nid 0 fr cs vs = Z at h1 h2 h3 h5
  let ρ' : Rho := updL (Z.map fun z => (z.1, z.2.2.2)) ρ
  have hH : applyU q.2 h = updL (Z.map fun z => (z.1, z.2.2.1)) h := by rw [applyU_updL, h1]
  have pw : ∀ {α : Type} (f : Nat × Nat × HE × RL → α), ((Z.map fun z => (z.1, f z)).map (·.1)).Pairwise (· < ·) := fun f => by
    rw [List.map_map, List.pairwise_map]
    exact h3.imp fun hab => hab.1
  have dead : ∀ z ∈ Z, h[z.1]? = some (.dead 0) ∧ ρ[z.1]? = some .d := fun z hz => by
    obtain ⟨g1, g2, _⟩ := h2 z hz
    have := allFresh_at _ _ hf z.1 g1 g2
    exact ⟨fresh_dead this, fresh_rho hh this⟩
  have inH : ∀ z ∈ Z, (applyU q.2 h)[z.1]? = some z.2.2.1 := fun z hz => by
    rw [hH]
    exact updL_mem _ _ (pw fun z => z.2.2.1) (List.mem_map.2 ⟨z, hz, rfl⟩) (List.getElem?_eq_some_iff.1 (dead z hz).1).1
  have inR : ∀ z ∈ Z, ρ'[z.1]? = some z.2.2.2 := fun z hz =>
    updL_mem _ _ (pw fun z => z.2.2.2) (List.mem_map.2 ⟨z, hz, rfl⟩) (List.getElem?_eq_some_iff.1 (dead z hz).2).1
  have outH : ∀ i, (∀ z ∈ Z, z.1 ≠ i) → (applyU q.2 h)[i]? = h[i]? := fun i hi => by
    rw [hH]
    exact updL_not _ _ (fun hm => by
      rw [List.map_map] at hm
      obtain ⟨z, hz, e⟩ := List.mem_map.1 hm
      exact hi z hz e)
  have outR : ∀ i, (∀ z ∈ Z, z.1 ≠ i) → ρ'[i]? = ρ[i]? := fun i hi =>
    updL_not _ _ (fun hm => by
      rw [List.map_map] at hm
      obtain ⟨z, hz, e⟩ := List.mem_map.1 hm
      exact hi z hz e)
  have split : ∀ i, (∃ z ∈ Z, z.1 = i) ∨ ∀ z ∈ Z, z.1 ≠ i := fun i => by
    by_cases hc : ∃ z ∈ Z, z.1 = i
    · exact .inl hc
    · exact .inr fun z hz e => hc ⟨z, hz, e⟩
  have frb : ∀ z ∈ Z, ∀ n, RL.block z.2.2.2 = some n → FrB fr vs n := fun z hz n hn => by
    obtain ⟨_, _, _, e, τ, nl, l, v, g4, g5, g6, g7, g8⟩ := h2 z hz
    rw [Nat.sub_zero] at g4 g6
    exact ⟨z.2.1, e, v, g4, g6, by rw [g8] at hn; exact hn⟩
  have own' : ∀ b, owned X ρ' b → owned X ρ b ∨ FrB fr vs b := fun b ho => by
    rcases ho with hX | ⟨r, hrm, hn⟩
    · exact .inl (.inl hX)
    · obtain ⟨i, hi⟩ := List.mem_iff_getElem?.1 hrm
      rcases split i with ⟨z, hz, rfl⟩ | hno
      · rw [inR z hz] at hi
        obtain rfl := Option.some.inj hi
        exact .inr (frb z hz b hn)
      · rw [outR i hno] at hi
        exact .inl (owned_of hi hn)
  have f : Fwd X w ρ h w' ρ' (applyU q.2 h) := by
    refine ⟨hbel.size, fun b hb' _ => hbel.block b hb', fun b hb' ho => ?_, fun i e he => ?_, fun i e t ty nl g l he hl => ?_, fun i b hi => ?_⟩
    · rcases own' b ho with h | h
      · exact h
      · have := (hres.blk b h).1; omega
    · rcases split i with ⟨z, hz, rfl⟩ | hno
      · rw [(dead z hz).1] at he
        obtain rfl := Option.some.inj he
        exact ⟨_, inH z hz, Nat.zero_le _⟩
      · exact ⟨e, by rw [outH i hno]; exact he, Nat.le_refl _⟩
    · rcases split i with ⟨z, hz, rfl⟩ | hno
      · left
        rw [(dead z hz).1] at he
        obtain rfl := Option.some.inj he
        rw [inH z hz] at hl
        obtain ⟨_, _, _, e', τ, nl', l', v, _, _, _, g7, _⟩ := h2 z hz
        rw [g7] at hl
        simp only [Option.some.injEq, HE.lst.injEq] at hl
        obtain ⟨_, _, _, rfl, _⟩ := hl
        simp [HE.ver]
      · right
        rw [outH i hno] at hl
        rw [he] at hl
        obtain rfl := Option.some.inj hl
        exact ⟨⟨_, _, _, _, rfl⟩, outR i hno⟩
    · rcases split i with ⟨z, hz, rfl⟩ | hno
      · rw [(dead z hz).2] at hi; cases hi
      · rw [outR i hno]; exact hi
  have mono : ∀ {t : Ty} {x : t.den} {c : List Value}, RC (fun b => owned X ρ b ∨ FrB fr vs b) w' t x c → RC (owned X ρ') w' t x c := fun hr => RC_mono (fun _ _ _ => rfl) (fun b _ ho => own' b ho) _ _ _ hr
  have cellz : ∀ z ∈ Z, HER X w' ρ' (applyU q.2 h) base z.2.2.1 z.2.2.2 := fun z hz => by
    obtain ⟨_, _, _, e, τ, nl, l, v, g4, g5, g6, g7, g8⟩ := h2 z hz
    rw [Nat.sub_zero] at g4 g5 g6
    have hc := hres.cell _ _ _ g5 g6
    rw [List.getD_eq_getElem?_getD, g4] at hc
    obtain ⟨τ', nl', l', xs, heq, ho, hn, hel⟩ := hc
    simp only [AV.sl.injEq] at heq
    obtain ⟨rfl, rfl, heq⟩ := heq
    cases heq
    rw [g7, g8]
    exact .lst (Nat.le_refl _) (ho.low hb) hn (fun i y hy => mono (hel i y hy))
  refine ⟨ρ', ⟨?_, fun i e he => ?_, fun i j r r' n hi hj hn hn' => ?_, fun i r n hi hn => ?_, hh.ext⟩, ⟨by rw [h4, hres.len], fun j c v hc hv => ?_⟩, f⟩
  · show (updL _ ρ).length = _
    rw [updL_length, hH, updL_length, hh.len]
  · rcases split i with ⟨z, hz, rfl⟩ | hno
    · rw [inH z hz] at he
      obtain rfl := Option.some.inj he
      exact ⟨_, inR z hz, cellz z hz⟩
    · rw [outH i hno] at he
      obtain ⟨r, hr, hher⟩ := hh.ent i e he
      exact ⟨r, by rw [outR i hno]; exact hr, HER_fwd f (fun k hk => hbel.block k (hh.lo i r k hr hk).2) hher⟩
  · rcases split i with ⟨z, hz, rfl⟩ | hno
    · rw [inR z hz] at hi
      obtain rfl := Option.some.inj hi
      rcases split j with ⟨z', hz', rfl⟩ | hno'
      · rw [inR z' hz'] at hj
        obtain rfl := Option.some.inj hj
        obtain ⟨_, _, _, e, τ, nl, l, v, g4, g5, g6, g7, g8⟩ := h2 z hz
        obtain ⟨_, _, _, e', τ', nl', l', v', k4, k5, k6, k7, k8⟩ := h2 z' hz'
        rw [Nat.sub_zero] at g4 g6 k4 k6
        rw [g8] at hn
        rw [k8] at hn'
        have he := hres.dist _ _ e e' v v' n g4 k4 g6 k6 hn hn'
        have : ∀ (L : List (Nat × Nat × HE × RL)), L.Pairwise (fun a b => a.1 < b.1 ∧ a.2.1 < b.2.1) → z ∈ L → z' ∈ L → z.2.1 = z'.2.1 → z.1 = z'.1 := fun L => by
          induction L with
          | nil => intro _ hm; simp at hm
          | cons a L ih =>
            intro hp hm hm' he
            rw [List.pairwise_cons] at hp
            rcases List.mem_cons.1 hm with e1 | n1
            · rcases List.mem_cons.1 hm' with e2 | n2
              · rw [e1, e2]
              · have := (hp.1 _ n2).2; rw [e1] at he; omega
            · rcases List.mem_cons.1 hm' with e2 | n2
              · have := (hp.1 _ n1).2; rw [e2] at he; omega
              · exact ih hp.2 n1 n2 he
        exact this Z h3 hz hz' he
      · rw [outR j hno'] at hj
        have a1 := (hres.blk n (frb z hz n hn)).1
        have a2 := (hh.lo j r' n hj hn').2
        omega
    · rw [outR i hno] at hi
      rcases split j with ⟨z', hz', rfl⟩ | hno'
      · rw [inR z' hz'] at hj
        obtain rfl := Option.some.inj hj
        have a1 := (hres.blk n (frb z' hz' n hn')).1
        have a2 := (hh.lo i r n hi hn).2
        omega
      · rw [outR j hno'] at hj
        exact hh.dist i j r r' n hi hj hn hn'
  · rcases split i with ⟨z, hz, rfl⟩ | hno
    · rw [inR z hz] at hi
      obtain rfl := Option.some.inj hi
      have a1 := hres.blk n (frb z hz n hn)
      omega
    · rw [outR i hno] at hi
      exact ⟨(hh.lo i r n hi hn).1, Nat.lt_of_lt_of_le (hh.lo i r n hi hn).2 hbel.size⟩
  · rcases h5 j c v hc hv with ⟨g1, g2⟩ | ⟨z, hz, g1, rfl, g3⟩
    · have := hres.cell j c v g2 hv
      rw [g1] at this
      exact VR_data (X := X) own' this
    · refine .own ⟨_, inH z hz, ?_⟩ (Nat.le_refl _) (fun _ _ _ _ _ => by rw [inR z hz, g3]) ?_
      · obtain ⟨_, _, _, e, τ, nl, l, v', _, _, _, g7, _⟩ := h2 z hz
        rw [g7]; exact Nat.le_refl _
      · have hz' := cellz z hz
        rw [g3] at hz'
        obtain ⟨_, _, _, e, τ, nl, l, v', _, _, _, g7, _⟩ := h2 z hz
        rw [g7] at hz'
        cases hz' with
        | lst _ ho _ _ => obtain ⟨a, c, e, _⟩ := ho.sl; exact ⟨_, _, _, e⟩
theorem leaf_cell : ∀ (t : Ty) (x : t.den), (t.cells x).length = t.leaves.length ∧ ∀ (j : Nat) (c : AV) (τ : Ty), (t.cells x)[j]? = some c → t.leaves[j]? = some τ → (∃ k n, c = .int k n) ∨ (∃ b, c = .bool b) ∨ (∃ s, c = .str s) ∨ ∃ t nl l, c = .sl t nl l ∧ τ = .sl t
  | .int k, x => ⟨rfl, fun j c τ hc _ => by cases j <;> simp [Ty.cells] at hc; exact .inl ⟨_, _, hc.symm⟩⟩
  | .bool, x => ⟨rfl, fun j c τ hc _ => by cases j <;> simp [Ty.cells] at hc; exact .inr (.inl ⟨_, hc.symm⟩)⟩
  | .str, x => ⟨rfl, fun j c τ hc _ => by cases j <;> simp [Ty.cells] at hc; exact .inr (.inr (.inl ⟨_, hc.symm⟩))⟩
  | .sl t, x => ⟨rfl, fun j c τ hc hτ => by cases j <;> simp [Ty.cells, Ty.leaves] at hc hτ; exact .inr (.inr (.inr ⟨_, _, _, hc.symm, hτ.symm⟩))⟩
  | .pair a b, x => by
    obtain ⟨h1, h2⟩ := leaf_cell a x.1
    obtain ⟨h3, h4⟩ := leaf_cell b x.2
    refine ⟨by simp only [Ty.cells, Ty.leaves, List.length_append, h1, h3], fun j c τ hc hτ => ?_⟩
    simp only [Ty.cells, Ty.leaves] at hc hτ
    by_cases hj : j < (a.cells x.1).length
    · rw [List.getElem?_append_left hj] at hc
      rw [List.getElem?_append_left (by rw [← h1]; exact hj)] at hτ
      exact h2 j c τ hc hτ
    · rw [List.getElem?_append_right (by omega)] at hc
      rw [List.getElem?_append_right (by rw [← h1]; omega), ← h1] at hτ
      exact h4 _ c τ hc hτ
theorem frFull_at : ∀ {ts : List Ty} {fr : List (Option TypeId)}, frFull ts fr = true → ∀ {j : Nat} {t : Ty}, ts[j]? = some (.sl t) → t.noSl = true ∧ ∃ e, fr[j]? = some (some e)
  | [], _, _, j, t, h => by simp at h
  | τ :: ts, fr, hf, j, t, h => by
    cases j with
    | zero =>
      simp at h
      subst h
      cases fr with
      | nil => simp [frFull] at hf
      | cons a fr =>
        cases a with
        | none => simp [frFull] at hf
        | some e => simp only [frFull, Bool.and_eq_true] at hf; exact ⟨hf.1, e, rfl⟩
    | succ j =>
      have hrest : frFull ts fr.tail = true := by
        cases τ with
        | sl t' =>
          cases fr with
          | nil => simp [frFull] at hf
          | cons a fr =>
            cases a with
            | none => simp [frFull] at hf
            | some e => simp only [frFull, Bool.and_eq_true] at hf; exact hf.2
        | _ => simpa [frFull] using hf
      obtain ⟨h1, e, h2⟩ := frFull_at hrest (j := j) (t := t) (by simpa using h)
      refine ⟨h1, e, ?_⟩
      cases fr with
      | nil => simp at h2
      | cons a fr => simpa using h2
theorem pure_sound {g : FuncId} {p : PF} {fr : List (Option TypeId)} (hp : PFOK P T g p) (hfr : fr = p.fr ∨ fr = []) (hh : HeapR X w ρ base h) (hb : base ≤ w.heap.size) (hg : GlR X w ρ h T) {nid : Nat} {args : List AV} {vs : Array Value} {K : OK R} {r : R} (hv : VRs X w ρ h args vs.toList) (hk : pureK p fr args h nid K = some r) :
    Calls P g vs w fun e w' => ∃ v av u, e = .returned v ∧ K av u = some r ∧ Done X base w ρ h v w' av (applyU u h) := by
  unfold pureK at hk
  have h2 := cond_some hk
  clear hk
  obtain ⟨hc, hk⟩ := h2
  simp only [Bool.and_eq_true] at hc
  obtain ⟨⟨hc1, hc2⟩, hc3⟩ := hc
  obtain ⟨hfl, hsh⟩ := flats_sound p.ps hc2 hc1 hv
  have lt : ∀ {ρ : Rho} {h : List HE}, HeapR X w ρ base h → ∀ b, owned X ρ b → b < w.heap.size := fun {ρ h} hh b ho => by
    rcases ho with hX | ⟨r, hrm, hrn⟩
    · have := hh.ext b hX; omega
    · obtain ⟨j, hj⟩ := List.mem_iff_getElem?.1 hrm
      exact (hh.lo j r b hj hrn).2
  have glr : ∀ {O : Nat → Prop}, (∀ b, O b → owned X ρ b) → GlR O w [] [] T := fun {O} ho g x hx => by
    cases hg g x hx with
    | ro hO hb hc hr => exact .ro (fun h => by rcases h with h | ⟨r, hr, _⟩; exact hO (ho _ h); simp at hr) hb hc (RC_mono (fun _ _ _ => rfl) (fun b _ h => by rcases h with h | ⟨r, hr, _⟩; exact ho _ h; simp at hr) _ _ _ hr)
  -- behind the arguments are given up, or not
  have fin : ∀ {O : Nat → Prop} {ρ1 : Rho} {h1 : List HE} {x : p.τ.den} {y : p.σ.den} {u1 : Upd}, p.f x = some y → HeapR X w ρ1 base h1 → Fwd X w ρ h w ρ1 h1 → h1 = applyU u1 h → (∀ b, O b → owned X ρ b) → (∀ b, O b → b < w.heap.size) →
      (∀ cs w', ResR O w w' fr (p.σ.cells y) cs → ResR (owned X ρ1) w w' fr (p.σ.cells y) cs) → RCP O w p x (flatsV vs.toList) → allFresh h1 nid (frN fr) = true →
      (match frCells nid fr (p.σ.cells y) with | some q => K (oneOrTup (unflat p.rs q.1)) (u1 ++ q.2) | none => none) = some r →
      Calls P g vs w fun e w' => ∃ v av u, e = .returned v ∧ K av u = some r ∧ Done X base w ρ h v w' av (applyU u h) := fun {O ρ1 h1 x y u1} hy hh1 f1 he hO hlt conv hrc hfresh hk => by
    split at hk
    · rename_i q hq
      refine (hp x y hy O w vs _ hlt (glr hO) hrc hsh).mono ?_
      rintro e w' ⟨cs, rfl, hres, hbel⟩
      have hres' : ResR O w w' fr (p.σ.cells y) cs := by
        rcases hfr with rfl | rfl
        · exact hres
        · exact hres.plain hlt
      obtain ⟨ρ2, k1, k2, k3⟩ := res_sound hh1 hb hbel (conv cs w' hres') hq hfresh
      refine ⟨_, _, _, rfl, hk, ⟨ρ2, ?_, ?_, ?_, hbel.mono hb⟩⟩
      · rw [applyU_append, ← he]; exact k1
      · rw [applyU_append, ← he]; exact oneOrTup_sound (unflat_sound p.rs k2)
      · rw [applyU_append, ← he]; exact f1.trans k3
    · simp at hk
  split at hk
  · rename_i x hx
    obtain ⟨y, hy, hk⟩ := optb_some hk
    cases hn : frFull p.σ.leaves fr with
    | true =>
      rw [hn] at hk
      simp only [cond_true] at hk
      have hrc := closeP_sound hh (O' := fun _ => False) (fun _ h => h.elim) hx (fun _ _ _ _ _ _ _ h => h) hfl
      refine fin hy hh (.refl _ _ _) (u1 := []) rfl (O := fun _ => False) (fun _ h => h.elim) (fun _ h => h.elim) (fun cs w' hres => ⟨hres.len, fun j c v hc hv => ?_, hres.dist⟩) hrc hc3 hk
      obtain ⟨hll, hlc⟩ := leaf_cell p.σ y
      have hj : j < p.σ.leaves.length := by rw [← hll]; exact (List.getElem?_eq_some_iff.1 hc).1
      have hl := hlc j c _ hc (List.getElem?_eq_getElem hj)
      have h0 := hres.cell j c v hc hv
      cases hf : fr.getD j none with
      | none =>
        rw [hf] at h0
        have h0 : VR (fun b => False ∨ FrB fr cs b) w' [] [] c v := h0
        show VR (fun b => owned X ρ b ∨ FrB fr cs b) w' [] [] c v
        rcases hl with ⟨k, n, rfl⟩ | ⟨b, rfl⟩ | ⟨s, rfl⟩ | ⟨t, nl, l, rfl, ht⟩
        · rw [inv_int h0]; exact .int _ _
        · rw [inv_bool h0]; exact .bool _
        · rw [inv_str h0]; exact .str _
        · obtain ⟨_, e, he⟩ := frFull_at hn (j := j) (t := t) (by rw [List.getElem?_eq_getElem hj, ht])
          rw [List.getD_eq_getElem?_getD, he] at hf
          simp at hf
      | some e =>
        rw [hf] at h0
        obtain ⟨τ, nl, l, xs, rfl, ho, hnn, hel⟩ := h0
        refine ⟨τ, nl, l, xs, rfl, ho, hnn, fun i z hz => ?_⟩
        rcases hl with ⟨k, n, h⟩ | ⟨b, h⟩ | ⟨s, h⟩ | ⟨t, nl', l', h, ht⟩
        · cases h
        · cases h
        · cases h
        · simp only [AV.sl.injEq] at h
          obtain ⟨rfl, _⟩ := h
          obtain ⟨hns, _⟩ := frFull_at hn (j := j) (t := τ) (by rw [List.getElem?_eq_getElem hj, ht])
          exact RC_noSl τ _ _ hns (hel i z hz)
    | false =>
      rw [hn] at hk
      simp only [cond_false] at hk
      obtain ⟨ρ1, hh1, f1, hsame, hd⟩ := freeze_sound (flats args) hh hb (closeP_now hx)
      have hno := freeze_no hh (fun i hi => (hsame i hi).1) hd
      have hrc := closeP_sound hh (O' := owned X ρ1) (fun b ho => f1.own b (lt hh1 b ho) ho) hx hno hfl
      have hfr1 : allFresh (applyU (freeze (flats args)) h) nid (frN fr) = true := by
        have : ∀ (n nid : Nat), allFresh h nid n = true → allFresh (applyU (freeze (flats args)) h) nid n = true := fun n => by
          induction n with
          | zero => intro _ _; rfl
          | succ n ih =>
            intro nid hf
            simp only [allFresh, Bool.and_eq_true] at hf ⊢
            refine ⟨?_, ih _ hf.2⟩
            have hnid : ∀ g, AV.own nid g ∉ flats args := fun g hm => by
              rcases closeP_now hx nid g hm with ⟨t, ty, nl, l, he⟩ | he
              · rw [fresh_dead hf.1] at he; simp at he
              · rw [fresh_dead hf.1] at he; simp at he
            have e := (hsame nid hnid).2
            rw [fresh_dead hf.1] at e
            simp only [fresh, e]
        exact this _ _ hc3
      exact fin hy hh1 f1 rfl (fun b ho => f1.own b (lt hh1 b ho) ho) (lt hh1) (fun _ _ h => h) hrc hfr1 hk
  · simp at hk
/-- The same of a function whose last argument is a closure over one variable. -/
def PCOK (P : Program) (T : Tab) (g g' : FuncId) (p : PC) : Prop := ∀ (x : p.τ.den) (z : p.κ.den) (y : p.σ.den), p.f x z = some y → ∀ (O : Nat → Prop) (w : World) (vs : Array Value) (cells c : List Value) (ad : Addr),
  (∀ b, O b → b < w.heap.size) → GlR O w [] [] T → RC O w p.τ x cells → shapeV p.ps cells vs.toList → RC O w p.κ z c → ¬ O ad.block → ad.block < w.heap.size → (∀ j v, c[j]? = some v → w.cell? (ad.add j) = some v) →
    Calls P g (vs.push (.func (.func g') #[] #[.pointer (some ad)])) w fun e w' => ∃ cs, e = .returned (oneOrTupV (unflatV p.rs cs)) ∧ ResR O w w' [] (p.σ.cells y) cs ∧ Below w.heap.size w w'
theorem lastClo_eq {a : AV} {q : FuncId × Nat} (h : lastClo a = some q) : a = .fn (.func q.1) [] [.ptr q.2 0] := by
  unfold lastClo at h
  split at h
  · obtain rfl := Option.some.inj h; rfl
  · simp at h
theorem closArg_eq : ∀ (args : List AV) {q : List AV × FuncId × Nat}, closArg args = some q → args = q.1 ++ [.fn (.func q.2.1) [] [.ptr q.2.2 0]]
  | [], q, h => by simp [closArg] at h
  | [a], q, h => by
    simp only [closArg] at h
    split at h
    · rename_i t ht
      obtain rfl := Option.some.inj h
      rw [lastClo_eq ht]; rfl
    · simp at h
  | a :: b :: r, q, h => by
    simp only [closArg] at h
    split at h
    · rename_i t ht
      obtain rfl := Option.some.inj h
      rw [closArg_eq (b :: r) ht]; rfl
    · simp at h
theorem clos_sound {g : FuncId} {F : PT} (hF : ∀ g' p, F.c g g' = some p → PCOK P T g g' p) (hh : HeapR X w ρ base h) (hb : base ≤ w.heap.size) (hg : GlR X w ρ h T) {args : List AV} {vs : Array Value} {K : OK R} {r : R} (hv : VRs X w ρ h args vs.toList) (hk : closK F g args h K = some r) :
    Calls P g vs w fun e w' => ∃ v av u, e = .returned v ∧ K av u = some r ∧ Done X base w ρ h v w' av (applyU u h) := by
  unfold closK at hk
  split at hk
  · rename_i init g' i hca
    split at hk
    · rename_i p cs hp hi
      have h2 := cond_some hk
      clear hk
      obtain ⟨hc, hk⟩ := h2
      simp only [Bool.and_eq_true] at hc
      obtain ⟨⟨⟨hc1, hc2⟩, hc3⟩, hc4⟩ := hc
      split at hk
      · rename_i x z hx hz
        obtain ⟨y, hy, hk⟩ := optb_some hk
        have ea := closArg_eq args hca
        simp only at ea
        subst ea
        have glr : GlR (fun _ => False) w [] [] T := fun g x hx => by
          cases hg g x hx with
          | ro hO hb hc hr => exact .ro (fun h => by rcases h with h | ⟨r, hr, _⟩; exact h; simp at hr) hb hc (RC_mono (fun _ _ _ => rfl) (fun b _ h => by rcases h with h | ⟨r, hr, _⟩; exact h.elim; simp at hr) _ _ _ hr)
        obtain ⟨v0, v1, hvs, ha, hb1⟩ : ∃ v0 v1, vs.toList = v0 ++ [v1] ∧ VRs X w ρ h init v0 ∧ VR X w ρ h (.fn (.func g') [] [.ptr i 0]) v1 := by
          have hl := hv.1
          simp only [List.length_append, List.length_singleton] at hl
          have hlt : init.length < vs.toList.length := by omega
          refine ⟨vs.toList.take init.length, vs.toList[init.length], ?_, ?_, ?_⟩
          · have e1 := List.take_append_drop init.length vs.toList
            rw [List.drop_eq_getElem_cons hlt, List.drop_eq_nil_of_le (by omega)] at e1
            exact e1.symm
          · have := hv.take init.length
            rwa [List.take_left] at this
          · exact hv.2 init.length _ _ (by simp) (List.getElem?_eq_getElem hlt)
        cases hb1 with
        | @fn _ _ _ a' b' q1 q2 q3 q4 =>
          have ha0 : a' = #[] := Array.eq_empty_of_size_eq_zero (by simpa using q1.symm)
          subst ha0
          obtain ⟨pv, hb'⟩ : ∃ pv, b' = #[pv] := by
            obtain ⟨l⟩ := b'
            obtain ⟨x, rfl⟩ := List.length_eq_one_iff.1 (show l.length = 1 by simpa using q3.symm)
            exact ⟨x, rfl⟩
          subst hb'
          have hpv := q4 0 _ pv rfl rfl
          cases hpv with
          | @ptr _ b _ hr =>
            obtain ⟨rl, hrl, hher⟩ := hh.ent i _ hi
            obtain rfl := Option.some.inj (hrl.symm.trans hr)
            cases hher with
            | @blk _ _ cur ty hbk hl hcells =>
              obtain ⟨hfl, hsh⟩ := flats_sound p.ps hc2 hc1 ha
              have hrc := (closeAll_sound hh (O' := fun _ => False) (fun _ h => h.elim) hx (fun _ _ _ _ _ _ _ h => h) hfl).1
              have hrz := (closeAll_sound hh (O' := fun _ => False) (fun _ h => h.elim) hz (fun _ _ _ _ _ _ _ h => h) (vs := cur.toList) ⟨by simpa using hl.symm, fun j c v hc hv => hcells j c v hc (by simpa using hv)⟩).1
              have hpush : vs = (v0.toArray).push (.func (.func g') #[] #[.pointer (some ⟨b, 0, none⟩)]) := by
                apply Array.ext'
                rw [hvs]; simp
              rw [hpush]
              refine (hF g' p hp x z y hy (fun _ => False) w v0.toArray _ cur.toList ⟨b, 0, none⟩ (fun _ h => h.elim) glr hrc (by simpa using hsh) hrz (fun h => h) (Array.getElem?_eq_some_iff.1 hbk).1 (fun j v hv => ?_)).mono ?_
              · have ea : (⟨b, 0, none⟩ : Addr).add j = ⟨b, j, none⟩ := by
                  simp only [Addr.add]
                  split
                  · rename_i h0; simp [h0]
                  · simp
                rw [ea, cell_at hbk j]; simpa using hv
              · rintro e w' ⟨us, rfl, hres, hbel⟩
                have hres' : ResR (owned X ρ) w w' [] (p.σ.cells y) us := ⟨hres.len, fun j c v hc hv => by
                  have h0 := hres.cell j c v hc hv
                  have h0 : VR (fun b => False ∨ FrB [] us b) w' [] [] c v := h0
                  show VR (fun b => owned X ρ b ∨ FrB [] us b) w' [] [] c v
                  obtain ⟨hll, hlc⟩ := leaf_cell p.σ y
                  have hj : j < p.σ.leaves.length := by rw [← hll]; exact (List.getElem?_eq_some_iff.1 hc).1
                  rcases hlc j c _ hc (List.getElem?_eq_getElem hj) with ⟨k, n, rfl⟩ | ⟨b, rfl⟩ | ⟨s, rfl⟩ | ⟨t, nl, l, rfl, ht⟩
                  · rw [inv_int h0]; exact .int _ _
                  · rw [inv_bool h0]; exact .bool _
                  · rw [inv_str h0]; exact .str _
                  · exfalso
                    have key : ∀ (t : Ty) (j : Nat) (u : Ty), t.noSl = true → t.leaves[j]? ≠ some (.sl u) := fun t => by
                      induction t with
                      | sl t _ => intro j u hn; simp [Ty.noSl] at hn
                      | pair a b iha ihb =>
                        intro j u hn he
                        simp only [Ty.noSl, Bool.and_eq_true] at hn
                        simp only [Ty.leaves] at he
                        rw [List.getElem?_append] at he
                        split at he
                        · exact iha _ _ hn.1 he
                        · exact ihb _ _ hn.2 he
                      | _ => intro j u _ he; cases j <;> simp [Ty.leaves] at he
                    exact key p.σ j t hc3 (by rw [List.getElem?_eq_getElem hj, ht]), hres.dist⟩
                obtain ⟨ρ2, k1, k2, k3⟩ := res_sound (nid := 0) (q := (p.σ.cells y, [])) hh hb hbel hres' rfl rfl
                refine ⟨_, _, _, rfl, hk, ⟨ρ2, k1, ?_, k3, hbel.mono hb⟩⟩
                exact oneOrTup_sound (unflat_sound p.rs k2)
      · simp at hk
    · simp at hk
  · simp at hk
end
end Go.Proofs.YtibdnfknokkadaaDoor.Ev
