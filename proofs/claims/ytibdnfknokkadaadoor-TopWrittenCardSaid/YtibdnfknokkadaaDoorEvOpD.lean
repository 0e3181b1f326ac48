/- What is held, changed entry by entry. -/
import Derived.Test.YtibdnfknokkadaaDoorEvEq
set_option linter.unusedVariables false
set_option linter.unusedSimpArgs false
namespace Go.Proofs.YtibdnfknokkadaaDoor.Ev
open Go Go.RowKit
variable {X : Nat → Prop}

section
variable {R : Type} {w : World} {ρ : Rho} {base : Nat} {h : List HE} {P : Program} {T : Tab}
/-- One entry is changed; of what was in memory only its own block may have changed. -/
theorem set_entry (hh : HeapR X w ρ base h) {i : Nat} {e0 e : HE} {r0 rl : RL} (hi : h[i]? = some e0) (hr0 : ρ[i]? = some r0) {w' : World} (hb : base ≤ w.heap.size)
    (hs : w.heap.size ≤ w'.heap.size) (hk : ∀ b, b < w.heap.size → r0.block ≠ some b → w'.heap[b]? = w.heap[b]?)
    (hr : ∀ n, rl.block = some n → (r0.block = some n ∨ w.heap.size ≤ n) ∧ n < w'.heap.size) (hver : e0.ver ≤ e.ver)
    (hlst : ∀ (t : Ty) (ty : TypeId) (nl : Bool) (g : Nat) (l : List t.den), e = .lst t ty nl g l → e0.ver < g ∨ ((∃ (t' : Ty) (ty' : TypeId) (nl' : Bool) (l' : List t'.den), e0 = .lst t' ty' nl' g l') ∧ rl = r0))
    (hrb : ∀ b, r0 = .b b → rl = .b b)
    (hher : Fwd X w ρ h w' (ρ.set i rl) (h.set i e) → HER X w' (ρ.set i rl) (h.set i e) base e rl) :
    HeapR X w' (ρ.set i rl) base (h.set i e) ∧ Fwd X w ρ h w' (ρ.set i rl) (h.set i e) ∧ (h.set i e)[i]? = some e ∧ (ρ.set i rl)[i]? = some rl := by
  have hlt : i < h.length := (List.getElem?_eq_some_iff.1 hi).1
  have hltρ : i < ρ.length := by rw [hh.len]; exact hlt
  have f : Fwd X w ρ h w' (ρ.set i rl) (h.set i e) := by
    refine ⟨hs, fun b hb' hO => hk b hb' (fun hc => hO (owned_of hr0 hc)), fun b hb' ho => ?_, fun j x hx => ?_, fun j x t ty nl g l hx hl => ?_, fun j b hj => ?_⟩
    · rcases ho with hX | ⟨r, hr', hn⟩
      · exact .inl hX
      obtain ⟨j, hj⟩ := List.mem_iff_getElem?.1 hr'
      by_cases hin : i = j
      · subst hin
        rw [List.getElem?_set_self hltρ] at hj
        obtain rfl := Option.some.inj hj
        rcases (hr b hn).1 with h1 | h1
        · exact owned_of hr0 h1
        · omega
      · rw [List.getElem?_set_ne hin] at hj
        exact owned_of hj hn
    · by_cases hin : i = j
      · subst hin
        obtain rfl := Option.some.inj (hi.symm.trans hx)
        exact ⟨e, by simp [hlt], hver⟩
      · exact ⟨x, by rw [List.getElem?_set_ne hin]; exact hx, Nat.le_refl _⟩
    · by_cases hin : i = j
      · subst hin
        obtain rfl := Option.some.inj (hi.symm.trans hx)
        rw [List.getElem?_set_self hlt] at hl
        obtain rfl := Option.some.inj hl
        rcases hlst t ty nl g l rfl with h1 | ⟨h1, h2⟩
        · exact .inl h1
        · exact .inr ⟨h1, by rw [List.getElem?_set_self hltρ, hr0, h2]⟩
      · rw [List.getElem?_set_ne hin] at hl
        obtain rfl := Option.some.inj (hl.symm.trans hx)
        exact .inr ⟨⟨t, ty, nl, l, rfl⟩, by rw [List.getElem?_set_ne hin]⟩
    · by_cases hin : i = j
      · subst hin
        obtain rfl := Option.some.inj (hr0.symm.trans hj)
        rw [List.getElem?_set_self hltρ, hrb b rfl]
      · rw [List.getElem?_set_ne hin]; exact hj
  refine ⟨⟨by simp [hh.len], fun j x hx => ?_, fun j k r r' n hj hk' hn hn' => ?_, fun j r n hj hn => ?_, hh.ext⟩, f, by simp [hlt], by simp [hltρ]⟩
  · by_cases hin : i = j
    · subst hin
      rw [List.getElem?_set_self hlt] at hx
      obtain rfl := Option.some.inj hx
      exact ⟨rl, by simp [hltρ], hher f⟩
    · rw [List.getElem?_set_ne hin] at hx
      obtain ⟨r, hr', hx'⟩ := hh.ent _ _ hx
      exact ⟨r, by rw [List.getElem?_set_ne hin]; exact hr', HER_fwd f (fun k hk' => hk k (hh.lo _ r k hr' hk').2 (fun hc => hin (hh.dist i j r0 r k hr0 hr' hc hk'))) hx'⟩
  · by_cases hin : i = j
    · subst hin
      rw [List.getElem?_set_self hltρ] at hj
      obtain rfl := Option.some.inj hj
      by_cases hkn : i = k
      · exact hkn
      · rw [List.getElem?_set_ne hkn] at hk'
        rcases (hr n hn).1 with h1 | h1
        · exact hh.dist i k r0 r' n hr0 hk' h1 hn'
        · have h2 := (hh.lo _ r' n hk' hn').2
          omega
    · rw [List.getElem?_set_ne hin] at hj
      by_cases hkn : i = k
      · subst hkn
        rw [List.getElem?_set_self hltρ] at hk'
        obtain rfl := Option.some.inj hk'
        rcases (hr n hn').1 with h1 | h1
        · exact hh.dist j i r r0 n hj hr0 hn h1
        · have h2 := (hh.lo _ r n hj hn).2
          omega
      · rw [List.getElem?_set_ne hkn] at hk'
        exact hh.dist j k r r' n hj hk' hn hn'
  · by_cases hin : i = j
    · subst hin
      rw [List.getElem?_set_self hltρ] at hj
      obtain rfl := Option.some.inj hj
      refine ⟨?_, (hr n hn).2⟩
      rcases (hr n hn).1 with h1 | h1
      · exact (hh.lo i r0 n hr0 h1).1
      · omega
    · rw [List.getElem?_set_ne hin] at hj
      exact ⟨(hh.lo j r n hj hn).1, Nat.lt_of_lt_of_le (hh.lo j r n hj hn).2 hs⟩

theorem fresh_dead {nid : Nat} (hf : fresh h nid = true) : h[nid]? = some (.dead 0) := by
  unfold fresh at hf
  split at hf
  · assumption
  · simp at hf
theorem fresh_rho (hh : HeapR X w ρ base h) {nid : Nat} (hf : fresh h nid = true) : ρ[nid]? = some .d := by
  obtain ⟨r, hr, hx⟩ := hh.ent _ _ (fresh_dead hf)
  cases hx
  exact hr

/-- A list that bears its number, or was given up. -/
def Now (h : List HE) (i g : Nat) : Prop := (∃ (t : Ty) (ty : TypeId) (nl : Bool) (l : List t.den), h[i]? = some (.lst t ty nl g l)) ∨ h[i]? = some (.dead (g + 1))
/-- Lists are given up: what they hold lasts, and is nobody's any more. -/
theorem freeze_sound : ∀ (vs : List AV) {ρ : Rho} {h : List HE}, HeapR X w ρ base h → base ≤ w.heap.size → (∀ i g, AV.own i g ∈ vs → Now h i g) →
    ∃ ρ', HeapR X w ρ' base (applyU (freeze vs) h) ∧ Fwd X w ρ h w ρ' (applyU (freeze vs) h) ∧ (∀ i, (∀ g, AV.own i g ∉ vs) → ρ'[i]? = ρ[i]? ∧ (applyU (freeze vs) h)[i]? = h[i]?) ∧
      (∀ i g, AV.own i g ∈ vs → ρ'[i]? = some .d) := by
  intro vs
  induction vs with
  | nil => exact fun {ρ h} hh hb _ => ⟨ρ, hh, .refl _ _ _, fun _ _ => ⟨rfl, rfl⟩, fun i g hm => by simp at hm⟩
  | cons c vs ih =>
    intro ρ h hh hb hc
    have skip : (∀ i g, c ≠ .own i g) → freeze (c :: vs) = freeze vs := fun hn => by
      cases c <;> first | rfl | exact absurd rfl (hn _ _)
    by_cases hown : ∃ i g, c = .own i g
    · obtain ⟨i, g, rfl⟩ := hown
      have step : ∃ e0 r0, h[i]? = some e0 ∧ ρ[i]? = some r0 ∧ e0.ver ≤ g + 1 ∧ ∀ b, r0 = .b b → RL.d = .b b := by
        rcases hc i g (by simp) with ⟨t, ty, nl, l, he⟩ | he
        · obtain ⟨r0, hr0, hher⟩ := hh.ent _ _ he
          exact ⟨_, r0, he, hr0, by simp [HE.ver], fun b hb' => by subst hb'; cases hher⟩
        · obtain ⟨r0, hr0, hher⟩ := hh.ent _ _ he
          exact ⟨_, r0, he, hr0, by simp [HE.ver], fun b hb' => by subst hb'; cases hher⟩
      obtain ⟨e0, r0, he0, hr0, hv, hnb⟩ := step
      obtain ⟨h1, f1, g1, g2⟩ := set_entry hh he0 hr0 (e := .dead (g + 1)) (rl := .d) (w' := w) hb (Nat.le_refl _) (fun _ _ _ => rfl) (fun n hn => by simp [RL.block] at hn) (by simpa [HE.ver] using hv)
        (fun t ty nl g l he => by cases he) hnb (fun _ => .dead _)
      obtain ⟨ρ', h2, f2, hsame, hd⟩ := ih h1 hb (fun j g' hj => by
        by_cases hij : i = j
        · subst hij
          have hg : g' = g := by
            rcases hc i g (by simp) with ⟨t, ty, nl, l, he⟩ | he <;> rcases hc i g' (List.mem_cons_of_mem _ hj) with ⟨t', ty', nl', l', he'⟩ | he'
            · rw [he] at he'; simp only [Option.some.injEq, HE.lst.injEq] at he'; exact he'.2.2.2.1.symm
            · rw [he] at he'; simp at he'
            · rw [he] at he'; simp at he'
            · rw [he] at he'; simp only [Option.some.injEq, HE.dead.injEq] at he'; omega
          subst hg
          exact .inr g1
        · rcases hc j g' (List.mem_cons_of_mem _ hj) with ⟨t, ty, nl, l, he⟩ | he
          · exact .inl ⟨t, ty, nl, l, by rw [List.getElem?_set_ne hij]; exact he⟩
          · exact .inr (by rw [List.getElem?_set_ne hij]; exact he))
      refine ⟨ρ', h2, f1.trans f2, fun j hj => ?_, fun j g' hj => ?_⟩
      · have hij : i ≠ j := fun e => hj g (by rw [e]; simp)
        obtain ⟨k1, k2⟩ := hsame j (fun g' hm => hj g' (List.mem_cons_of_mem _ hm))
        exact ⟨by rw [k1, List.getElem?_set_ne hij], by rw [show applyU (freeze (AV.own i g :: vs)) h = applyU (freeze vs) (h.set i (.dead (g + 1))) from rfl, k2, List.getElem?_set_ne hij]⟩
      · rcases List.mem_cons.1 hj with he | hj
        · simp only [AV.own.injEq] at he
          obtain ⟨rfl, rfl⟩ := he
          by_cases hm : ∃ g', AV.own j g' ∈ vs
          · obtain ⟨g'', hm⟩ := hm; exact hd j g'' hm
          · rw [(hsame j (fun g' hm' => hm ⟨g', hm'⟩)).1]; exact g2
        · exact hd j g' hj
    · have hn : ∀ i g, c ≠ .own i g := fun i g e => hown ⟨i, g, e⟩
      rw [skip hn]
      obtain ⟨ρ', h2, f2, hsame, hd⟩ := ih hh hb (fun i g hm => hc i g (List.mem_cons_of_mem _ hm))
      refine ⟨ρ', h2, f2, fun i hi => hsame i (fun g hm => hi g (List.mem_cons_of_mem _ hm)), fun i g hm => ?_⟩
      rcases List.mem_cons.1 hm with he | hm
      · exact absurd he.symm (hn i g)
      · exact hd i g hm
theorem freeze_no (hh : HeapR X w ρ base h) {vs : List AV} {ρ' : Rho} (hsame : ∀ i, (∀ g, AV.own i g ∉ vs) → ρ'[i]? = ρ[i]?) (hd : ∀ i g, AV.own i g ∈ vs → ρ'[i]? = some .d) :
    ∀ i g, AV.own i g ∈ vs → ∀ r n, ρ[i]? = some r → r.block = some n → ¬ owned X ρ' n := by
  intro i g hm r n hr hn ho
  rcases ho with hX | ⟨r', hr', hn'⟩
  · have := hh.ext n hX; have := (hh.lo i r n hr hn).1; omega
  obtain ⟨j, hj⟩ := List.mem_iff_getElem?.1 hr'
  by_cases hv : ∃ g', AV.own j g' ∈ vs
  · obtain ⟨g', hv⟩ := hv
    rw [hd j g' hv] at hj
    obtain rfl := Option.some.inj hj
    simp [RL.block] at hn'
  · rw [hsame j (fun g' hm' => hv ⟨g', hm'⟩)] at hj
    have := hh.dist i j r r' n hr hj hn hn'
    subst this
    exact hv ⟨g, hm⟩
theorem applyU_append (a b : Upd) (h : List HE) : applyU (a ++ b) h = applyU b (applyU a h) := by
  induction a generalizing h with
  | nil => rfl
  | cons x a ih => exact ih _
/-- What was closed bore its number. -/
theorem close_now {h : List HE} : ∀ (t : Ty) (cs : List AV) (x : t.den) (rest : List AV), t.close h cs = some (x, rest) → ∃ p, cs = p ++ rest ∧ ∀ i g, AV.own i g ∈ p → Now h i g
  | .int k, cs, x, rest, hc => by
    cases cs with
    | nil => simp [Ty.close] at hc
    | cons c cs => cases c <;> simp [Ty.close] at hc; obtain ⟨_, _, rfl⟩ := hc; exact ⟨[_], rfl, by simp⟩
  | .bool, cs, x, rest, hc => by
    cases cs with
    | nil => simp [Ty.close] at hc
    | cons c cs => cases c <;> simp [Ty.close] at hc; obtain ⟨_, rfl⟩ := hc; exact ⟨[_], rfl, by simp⟩
  | .str, cs, x, rest, hc => by
    cases cs with
    | nil => simp [Ty.close] at hc
    | cons c cs => cases c <;> simp [Ty.close] at hc; obtain ⟨_, rfl⟩ := hc; exact ⟨[_], rfl, by simp⟩
  | .sl t, cs, x, rest, hc => by
    cases cs with
    | nil => simp [Ty.close] at hc
    | cons c cs =>
      simp only [Ty.close] at hc
      split at hc
      · rename_i y hy
        simp only [Option.some.injEq, Prod.mk.injEq] at hc
        obtain ⟨rfl, rfl⟩ := hc
        refine ⟨[c], rfl, fun i g hm => ?_⟩
        simp only [List.mem_singleton] at hm
        subst hm
        simp only [closeSl] at hy
        split at hy
        · rename_i t' e nl g' l hi
          cases hgg : Nat.beq g g' with
          | false => rw [hgg] at hy; simp at hy
          | true => obtain rfl := Nat.eq_of_beq_eq_true hgg; exact .inl ⟨_, _, _, _, hi⟩
        · simp at hy
      · simp at hc
  | .pair a b, cs, x, rest, hc => by
    simp only [Ty.close] at hc
    split at hc
    · rename_i x1 r1 h1
      split at hc
      · rename_i y r2 h2
        simp only [Option.some.injEq, Prod.mk.injEq] at hc
        obtain ⟨rfl, rfl⟩ := hc
        obtain ⟨p, hp, hpo⟩ := close_now a cs x1 r1 h1
        obtain ⟨q, hq, hqo⟩ := close_now b r1 y r2 h2
        refine ⟨p ++ q, by rw [hp, hq, List.append_assoc], fun i g hm => ?_⟩
        rcases List.mem_append.1 hm with hm | hm
        · exact hpo i g hm
        · exact hqo i g hm
      · simp at hc
    · simp at hc
theorem closeAll_now {h : List HE} {t : Ty} {cs : List AV} {x : t.den} (hc : t.closeAll h cs = some x) : ∀ i g, AV.own i g ∈ cs → Now h i g := by
  unfold Ty.closeAll at hc
  split at hc
  · rename_i y hy
    obtain ⟨p, hp, hpo⟩ := close_now t cs y [] hy
    rw [List.append_nil] at hp
    subst hp
    exact hpo
  · simp at hc
end
end Go.Proofs.YtibdnfknokkadaaDoor.Ev
