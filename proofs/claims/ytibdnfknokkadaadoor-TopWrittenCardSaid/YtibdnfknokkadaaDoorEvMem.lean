/- The evaluator's reads, and data out of cells and back. -/
import Derived.Test.YtibdnfknokkadaaDoorEvRel
import Derived.Deep.Slices
import Derived.Laws.Cells
set_option linter.unusedVariables false
set_option linter.unusedSimpArgs false
set_option linter.unnecessarySimpa false
namespace Go.Proofs.YtibdnfknokkadaaDoor.Ev
open Go Go.RowKit
variable {X : Nat → Prop}

/-- What is known of the program's types. -/
structure TabOK (P : Program) (T : Tab) : Prop where
  und : ∀ t i, T t = some i → P.underlying t = some i.desc
  info : ∀ t i, T t = some i → ∃ j, P.info? t = some j ∧ j.size = i.size ∧ j.bytes = i.bytes ∧ j.zero = some i.zero
  zsize : ∀ t i, T t = some i → i.zero.cells.size = i.size
  one : ∀ t i, T t = some i → isAggD i.desc = false → i.size = 1
  ty : ∀ t i τ, T t = some i → i.ty = some τ → τ.size = i.size ∧ ∀ O w, RC O w τ τ.zero i.zero.cells.toList
  eqs : ∀ t i, T t = some i → i.eqs = true → P.stoodInHeld t = false ∧ P.eqGuardType P.depth t = false ∧ ∀ fs, i.desc = .struct fs → ∀ f ∈ fs.toList, f.name ≠ "_"

def VRs (X : Nat → Prop) (w : World) (ρ : Rho) (h : List HE) (cs : List AV) (vs : List Value) : Prop := cs.length = vs.length ∧ ∀ (i : Nat) (c : AV) (v : Value), cs[i]? = some c → vs[i]? = some v → VR X w ρ h c v
theorem VRs.nil (w : World) (ρ : Rho) (h : List HE) : VRs X w ρ h [] [] := ⟨rfl, by simp⟩
theorem VRs.cons {w : World} {ρ : Rho} {h : List HE} {c : AV} {v : Value} {cs : List AV} {vs : List Value} (hv : VR X w ρ h c v) (hs : VRs X w ρ h cs vs) : VRs X w ρ h (c :: cs) (v :: vs) := by
  refine ⟨by simp [hs.1], fun i a b ha hb => ?_⟩
  cases i with
  | zero => simp at ha hb; subst ha; subst hb; exact hv
  | succ i => simp at ha hb; exact hs.2 i a b ha hb
theorem VRs.uncons {w : World} {ρ : Rho} {h : List HE} {c : AV} {cs : List AV} {vs : List Value} (hc : VRs X w ρ h (c :: cs) vs) : ∃ v r, vs = v :: r ∧ VR X w ρ h c v ∧ VRs X w ρ h cs r := by
  cases vs with
  | nil => have := hc.1; simp at this
  | cons v r => exact ⟨v, r, rfl, hc.2 0 c v rfl rfl, by have := hc.1; simpa using this, fun i a b ha hb => hc.2 (i + 1) a b (by simpa using ha) (by simpa using hb)⟩
theorem VRs.append {w : World} {ρ : Rho} {h : List HE} : ∀ {c1 : List AV} {v1 : List Value} {c2 : List AV} {v2 : List Value}, VRs X w ρ h c1 v1 → VRs X w ρ h c2 v2 → VRs X w ρ h (c1 ++ c2) (v1 ++ v2)
  | [], v1, _, _, h1, h2 => by have := h1.1; have : v1 = [] := List.eq_nil_of_length_eq_zero (by simpa using this.symm); subst this; exact h2
  | c :: c1, v1, _, _, h1, h2 => by
    obtain ⟨v, r, rfl, hv, hr⟩ := h1.uncons
    exact .cons hv (hr.append h2)
theorem VRs.take {w : World} {ρ : Rho} {h : List HE} {cs : List AV} {vs : List Value} (hc : VRs X w ρ h cs vs) (n : Nat) : VRs X w ρ h (cs.take n) (vs.take n) :=
  ⟨by simp [hc.1], fun i c v hc' hv => by
    rw [List.getElem?_take] at hc' hv
    split at hc'
    · rename_i hi; rw [if_pos hi] at hv; exact hc.2 i c v hc' hv
    · simp at hc'⟩
theorem VRs.drop {w : World} {ρ : Rho} {h : List HE} {cs : List AV} {vs : List Value} (hc : VRs X w ρ h cs vs) (n : Nat) : VRs X w ρ h (cs.drop n) (vs.drop n) :=
  ⟨by simp [hc.1], fun i c v hc' hv => by
    rw [List.getElem?_drop] at hc' hv; exact hc.2 _ c v hc' hv⟩
theorem VRs.at_ {w : World} {ρ : Rho} {h : List HE} {cs : List AV} {vs : List Value} (hs : VRs X w ρ h cs vs) {i : Nat} {c : AV} (hc : cs[i]? = some c) : ∃ v, vs[i]? = some v ∧ VR X w ρ h c v := by
  have hi : i < vs.length := by rw [← hs.1]; exact (List.getElem?_eq_some_iff.1 hc).1
  exact ⟨vs[i], by simp [hi], hs.2 i c _ hc (by simp [hi])⟩
theorem VRs.fwd {w w' : World} {ρ ρ' : Rho} {h h' : List HE} {cs : List AV} {vs : List Value} (hf : Fwd X w ρ h w' ρ' h') (hs : VRs X w ρ h cs vs) : VRs X w' ρ' h' cs vs := ⟨hs.1, fun i c v hc hv => VR_fwd hf (hs.2 i c v hc hv)⟩

theorem optb_some {α β : Type} {o : Option α} {K : α → Option β} {r : β} (h : optb o K = some r) : ∃ x, o = some x ∧ K x = some r := by
  cases o with
  | none => simp [optb] at h
  | some x => exact ⟨x, rfl, h⟩
theorem cond_some {α : Type} {b : Bool} {x : Option α} {r : α} (h : (bif b then x else none) = some r) : b = true ∧ x = some r := by cases b <;> simp_all

/-- Data, cell by cell. -/
theorem RC_cells {w : World} {ρ : Rho} {hh : List HE} : ∀ (t : Ty) (x : t.den) (c : List Value), RC (owned X ρ) w t x c → VRs X w ρ hh (t.cells x) c
  | .int k, n, _, h => by simp only [RC] at h; subst h; exact .cons (.int _ _) (.nil _ _ _)
  | .bool, b, _, h => by simp only [RC] at h; subst h; exact .cons (.bool _) (.nil _ _ _)
  | .str, s, _, h => by simp only [RC] at h; subst h; exact .cons (.str _) (.nil _ _ _)
  | .sl t, x, _, h => by
    have h' := h
    simp only [RC] at h'
    obtain ⟨a, cap, rfl, _⟩ := h'
    exact .cons (.sl h) (.nil _ _ _)
  | .pair a b, x, _, h => by
    simp only [RC] at h
    obtain ⟨c1, c2, rfl, h1, h2⟩ := h
    exact (RC_cells a _ _ h1).append (RC_cells b _ _ h2)

theorem cells_length : ∀ (t : Ty) (x : t.den), (t.cells x).length = t.size
  | .int _, _ => rfl
  | .bool, _ => rfl
  | .str, _ => rfl
  | .sl _, _ => rfl
  | .pair a b, x => by simp only [Ty.cells, List.length_append, cells_length a, cells_length b, Ty.size]

theorem castL_some {t t' : Ty} {l : List t'.den} {l' : List t.den} (h : castL t t' l = some l') : ∃ e : t' = t, l' = e ▸ l := by
  unfold castL at h
  split at h
  · rename_i e; exact ⟨e, (Option.some.inj h).symm⟩
  · simp at h

/-- A row of its own reads as data, as long as nothing is written to it. -/
theorem RC_own {w : World} {ρ : Rho} {hh : List HE} {base : Nat} {O' : Nat → Prop} (ho : ∀ b, O' b → owned X ρ b) {t : Ty} {e : TypeId} {nl : Bool} {g : Nat} {l : List t.den} {v : Value}
    (h : HER X w ρ hh base (.lst t e nl g l) (.s v)) (hb : ∀ n, vblock v = some n → ¬ O' n) : RC O' w (.sl t) (nl, l) [v] := by
  cases h with
  | @lst _ _ _ _ _ _ xs hg1 how hn hel =>
    simp only [RC]
    rcases how with ⟨h0, _, a, rfl⟩ | ⟨g, cap, cur, ty, fz, rfl, how⟩
    · have hl : l = [] := List.eq_nil_of_length_eq_zero h0
      subst hl
      refine ⟨a, 0, rfl, ?_, Nat.le_refl _, fun _ => rfl, by simp⟩
      cases a with
      | none => have := hn.1 rfl; simpa using this
      | some a =>
        cases hq : (nl && ([] : List t.den).isEmpty) with
        | false => simpa using hq
        | true => have := hn.2 hq; simp at this
    · refine ⟨some ⟨g, 0, none⟩, cap + 1, rfl, ?_, how.num, (fun h => by simp at h), fun i y hy => ?_⟩
      · cases hq : (nl && l.isEmpty) with
        | false => simpa using hq
        | true => have := hn.2 hq; simp at this
      · have hr := hel i y hy
        have hil : i < l.length := (List.getElem?_eq_some_iff.1 hy).1
        refine ⟨⟨g, 0, none⟩, _, rfl, hb g rfl, fun j u hu => ?_, RC_mono (fun _ _ _ => rfl) (fun b _ h => ho b h) t y _ hr⟩
        have hu' : xs[i * t.size + j]? = some u := by
          rw [List.getElem?_take] at hu
          split at hu
          · rw [List.getElem?_drop] at hu; exact hu
          · simp at hu
        have := how.cells (i * t.size + j) u hu'
        exact this

theorem castHER {w : World} {ρ : Rho} {hh : List HE} {base : Nat} {t t' : Ty} {e : TypeId} {nl : Bool} {g : Nat} {l : List t'.den} {r : RL} (h : HER X w ρ hh base (.lst t' e nl g l) r) (he : t' = t) : HER X w ρ hh base (.lst t e nl g (he ▸ l)) r := by
  subst he; exact h
theorem her_lst {w : World} {ρ : Rho} {hh : List HE} {base : Nat} {t : Ty} {e : TypeId} {nl : Bool} {g : Nat} {l : List t.den} {r : RL} (h : HER X w ρ hh base (.lst t e nl g l) r) : ∃ v, r = .s v := by cases h; exact ⟨_, rfl⟩
theorem her_blk {w : World} {ρ : Rho} {hh : List HE} {base : Nat} {cs : List AV} {r : RL} (h : HER X w ρ hh base (.blk cs) r) : ∃ n, r = .b n := by cases h; exact ⟨_, rfl⟩

theorem closeSl_sound {w : World} {ρ : Rho} {base : Nat} {h : List HE} (hh : HeapR X w ρ base h) {O' : Nat → Prop} (ho : ∀ b, O' b → owned X ρ b) {t : Ty} {c : AV} {x : Bool × List t.den} {v : Value}
    (hc : closeSl t h c = some x) (hk : ∀ i g, c = .own i g → ∀ r n, ρ[i]? = some r → r.block = some n → ¬ O' n) (hv : VR X w ρ h c v) : RC O' w (.sl t) x [v] := by
  cases c with
  | sl t' nl l =>
    simp only [closeSl] at hc
    split at hc
    · rename_i l' hl
      obtain ⟨e, rfl⟩ := castL_some hl
      subst e
      obtain rfl := Option.some.inj hc
      cases hv with
      | sl hr => exact RC_mono (fun _ _ _ => rfl) (fun b _ h => ho b h) _ _ _ hr
    · simp at hc
  | nils =>
    simp only [closeSl] at hc
    obtain rfl := Option.some.inj hc
    cases hv
    simp only [RC]
    exact ⟨none, 0, rfl, rfl, Nat.le_refl _, fun _ => rfl, by simp⟩
  | slz nl =>
    simp only [closeSl] at hc
    obtain rfl := Option.some.inj hc
    cases hv with
    | slz hz =>
      obtain ⟨a, rfl, rfl⟩ := hz
      simp only [RC]
      exact ⟨a, 0, rfl, by simp, Nat.le_refl _, fun _ => rfl, by simp⟩
  | own i g =>
    simp only [closeSl] at hc
    split at hc
    · rename_i t' e nl g' l hi
      cases hgg : Nat.beq g g' with
      | false => rw [hgg] at hc; simp at hc
      | true =>
        obtain rfl := Nat.eq_of_beq_eq_true hgg
        rw [hgg] at hc
        simp only [cond_true] at hc
        split at hc
        · rename_i l' hl
          obtain ⟨e, rfl⟩ := castL_some hl
          subst e
          obtain rfl := Option.some.inj hc
          obtain ⟨r, hr, hher⟩ := hh.ent i _ hi
          cases hv with
          | own _ _ ha _ =>
            obtain rfl := Option.some.inj (hr.symm.trans (ha _ _ _ _ hi))
            exact RC_own ho hher (fun n hn => hk i g rfl _ n hr hn)
        · simp at hc
    · simp at hc
  | _ => simp [closeSl] at hc

theorem close_sound {w : World} {ρ : Rho} {base : Nat} {h : List HE} (hh : HeapR X w ρ base h) {O' : Nat → Prop} (ho : ∀ b, O' b → owned X ρ b) :
    ∀ (t : Ty) (cs : List AV) (x : t.den) (rest : List AV) (vs : List Value), t.close h cs = some (x, rest) → (∀ i g, AV.own i g ∈ cs → ∀ r n, ρ[i]? = some r → r.block = some n → ¬ O' n) → VRs X w ρ h cs vs →
      ∃ c1 c2, vs = c1 ++ c2 ∧ RC O' w t x c1 ∧ VRs X w ρ h rest c2 ∧ (∃ p, cs = p ++ rest ∧ ∀ c ∈ p, cellOK c = true)
  | .int k, cs, x, rest, vs, hc, hk, hv => by
    cases cs with
    | nil => simp [Ty.close] at hc
    | cons c cs =>
      cases c <;> simp [Ty.close] at hc
      rename_i k' n
      obtain ⟨rfl, rfl, rfl⟩ := hc
      obtain ⟨v, r, rfl, h1, h2⟩ := hv.uncons
      cases h1
      exact ⟨[_], r, rfl, rfl, h2, [_], rfl, by simp [cellOK]⟩
  | .bool, cs, x, rest, vs, hc, hk, hv => by
    cases cs with
    | nil => simp [Ty.close] at hc
    | cons c cs =>
      cases c <;> simp [Ty.close] at hc
      obtain ⟨rfl, rfl⟩ := hc
      obtain ⟨v, r, rfl, h1, h2⟩ := hv.uncons
      cases h1
      exact ⟨[_], r, rfl, rfl, h2, [_], rfl, by simp [cellOK]⟩
  | .str, cs, x, rest, vs, hc, hk, hv => by
    cases cs with
    | nil => simp [Ty.close] at hc
    | cons c cs =>
      cases c <;> simp [Ty.close] at hc
      obtain ⟨rfl, rfl⟩ := hc
      obtain ⟨v, r, rfl, h1, h2⟩ := hv.uncons
      cases h1
      exact ⟨[_], r, rfl, rfl, h2, [_], rfl, by simp [cellOK]⟩
  | .sl t, cs, x, rest, vs, hc, hk, hv => by
    cases cs with
    | nil => simp [Ty.close] at hc
    | cons c cs =>
      simp only [Ty.close] at hc
      split at hc
      · rename_i y hy
        simp only [Option.some.injEq, Prod.mk.injEq] at hc
        obtain ⟨rfl, rfl⟩ := hc
        obtain ⟨v, r, rfl, h1, h2⟩ := hv.uncons
        refine ⟨[v], r, rfl, closeSl_sound hh ho hy (fun i g hi => hk i g (by simp [hi])) h1, h2, [c], rfl, ?_⟩
        cases c <;> first | (simp [closeSl] at hy; done) | simp [cellOK]
      · simp at hc
  | .pair a b, cs, x, rest, vs, hc, hk, hv => by
    simp only [Ty.close] at hc
    split at hc
    · rename_i x1 r1 h1
      split at hc
      · rename_i y r2 h2
        simp only [Option.some.injEq, Prod.mk.injEq] at hc
        obtain ⟨rfl, rfl⟩ := hc
        obtain ⟨c1, c2, rfl, g1, g2, p, hp, hpo⟩ := close_sound hh ho a cs x1 r1 vs h1 hk hv
        obtain ⟨d1, d2, rfl, k1, k2, q, hq, hqo⟩ := close_sound hh ho b r1 y r2 c2 h2 (fun i g hi => hk i g (by rw [hp]; exact List.mem_append_right _ hi)) g2
        refine ⟨c1 ++ d1, d2, by simp, ?_, k2, p ++ q, by rw [hp, hq, List.append_assoc], fun c hc => ?_⟩
        · simp only [RC]; exact ⟨c1, d1, rfl, g1, k1⟩
        · rcases List.mem_append.1 hc with hc | hc
          · exact hpo c hc
          · exact hqo c hc
      · simp at hc
    · simp at hc
theorem closeAll_sound {w : World} {ρ : Rho} {base : Nat} {h : List HE} (hh : HeapR X w ρ base h) {O' : Nat → Prop} (ho : ∀ b, O' b → owned X ρ b) {t : Ty} {cs : List AV} {x : t.den} {vs : List Value}
    (hc : t.closeAll h cs = some x) (hk : ∀ i g, AV.own i g ∈ cs → ∀ r n, ρ[i]? = some r → r.block = some n → ¬ O' n) (hv : VRs X w ρ h cs vs) : RC O' w t x vs ∧ ∀ c ∈ cs, cellOK c = true := by
  unfold Ty.closeAll at hc
  split at hc
  · rename_i y hy
    obtain rfl := Option.some.inj hc
    obtain ⟨c1, c2, rfl, h1, h2, p, hp, hpo⟩ := close_sound hh ho t cs y [] vs hy hk hv
    have : c2 = [] := List.eq_nil_of_length_eq_zero (by simpa using h2.1.symm)
    subst this
    simp only [List.append_nil] at hp ⊢
    subst hp
    exact ⟨h1, hpo⟩
  · simp at hc
theorem allOK_mem : ∀ {cs : List AV}, allOK cs = true → ∀ c ∈ cs, cellOK c = true
  | [], _, _, h => by simp at h
  | c :: r, h, x, hx => by
    simp only [allOK] at h
    cases hc : cellOK c with
    | false => rw [hc] at h; simp at h
    | true =>
      rw [hc] at h
      rcases List.mem_cons.1 hx with rfl | hx
      · exact hc
      · exact allOK_mem h x hx
theorem cell_one {w : World} {ρ : Rho} {h : List HE} {c : AV} {v : Value} (hc : cellOK c = true) (hv : VR X w ρ h c v) : v.oneCell' = true ∧ v.cells = #[v] := by
  cases hv with
  | lit v => cases v <;> simp_all [cellOK, Value.oneCell', Value.cells]
  | sl hr => simp only [RC] at hr; obtain ⟨a, cap, he, _⟩ := hr; simp only [List.cons.injEq, and_true] at he; subst he; simp [Value.oneCell', Value.cells]
  | own _ _ _ hs => obtain ⟨a, n, c, rfl⟩ := hs; simp [Value.oneCell', Value.cells]
  | slz hz => obtain ⟨a, rfl, rfl⟩ := hz; simp [Value.oneCell', Value.cells]
  | _ => simp_all [cellOK, Value.oneCell', Value.cells]

end Go.Proofs.YtibdnfknokkadaaDoor.Ev
