/- All operations in one word. -/
import Derived.Test.YtibdnfknokkadaaDoorEvOpH
set_option linter.unusedVariables false
set_option linter.unusedSimpArgs false
namespace Go.Proofs.YtibdnfknokkadaaDoor.Ev
open Go Go.RowKit
variable {X : Nat → Prop}

section
variable {R : Type} {w : World} {ρ : Rho} {base : Nat} {h : List HE} {P : Program} {T : Tab}
theorem slice_sl {O : Nat → Prop} {τ : Ty} {nl : Bool} {l : List τ.den} {v : Value} (hr : RC O w (.sl τ) (nl, l) [v]) {a u : Nat} (ha : a ≤ u) (hu : u ≤ l.length) :
    ∃ ad cap, v = .slice ad l.length cap ∧ l.length ≤ cap ∧ RC O w (.sl τ) (nl && l.isEmpty, (l.drop a).take (u - a)) [.slice (if cap = a then ad else ad.map (·.add (a * τ.size))) (u - a) (cap - a)] := by
  simp only [RC] at hr
  obtain ⟨ad, cap, e1, hn, hl, hz, hel⟩ := hr
  simp only [List.cons.injEq, and_true] at e1
  refine ⟨ad, cap, e1, hl, ?_⟩
  simp only [RC]
  have hlen : ((l.drop a).take (u - a)).length = u - a := by rw [List.length_take, List.length_drop]; omega
  refine ⟨_, cap - a, by rw [hlen], ?_, by rw [hlen]; omega, ?_, ?_⟩
  · cases ad with
    | none =>
      have hn : (nl && l.isEmpty) = true := hn
      have : l = [] := List.isEmpty_iff.1 (by rw [Bool.and_eq_true] at hn; exact hn.2)
      subst this
      rw [hn]
      simp
    | some ad =>
      have hn : (nl && l.isEmpty) = false := hn
      rw [hn]
      by_cases hc : cap = a <;> simp [hc]
  · intro he
    cases ad with
    | none => rw [hz rfl]; omega
    | some ad => by_cases hc : cap = a <;> simp [hc] at he
  · intro i y hy
    rw [List.getElem?_take] at hy
    split at hy
    · rename_i hi
      rw [List.getElem?_drop] at hy
      obtain ⟨ad', c, rfl, hO, hc, hr⟩ := hel (a + i) y hy
      have hne : ¬ cap = a := by have := (List.getElem?_eq_some_iff.1 hy).1; omega
      refine ⟨ad'.add (a * τ.size), c, by rw [if_neg hne]; rfl, by rw [add_block]; exact hO, fun j v hv => ?_, hr⟩
      rw [Go.Deep.add_add]
      have := hc j v hv
      rw [Nat.add_mul] at this
      rw [← Nat.add_assoc]
      exact this
    · simp at hy
theorem run_slice_sl (hT : TabOK P T) {t e : TypeId} {k : Inf} (hu : P.underlying t = some (.slice e)) (he : T e = some k) {ad : Option Addr} {len cap : Nat} {lo hi : Option Value} {a u : Int} (hlo : (lo = none ∧ a = 0) ∨ ∃ k, lo = some (.int k a)) (hhi : (hi = none ∧ u = (len : Int)) ∨ ∃ k, hi = some (.int k u))
    (h0 : 0 ≤ a) (h1 : a ≤ u) (h2 : u ≤ (len : Int)) (h3 : len ≤ cap) :
    (Instr.sliceAt t (.slice ad len cap) lo hi none).run P w = .ok (.slice (if cap = a.toNat then ad else ad.map (·.add (a.toNat * k.size))) (u.toNat - a.toNat) (cap - a.toNat)) w := by
  simp only [Instr.sliceAt, Sem.run_bind, run_underlying hu, Result.andThen_ok, Instr.slice, run_bounds hlo hhi h0 h1 h2 h3, run_sizeOf hT he, Sem.run_pure]
theorem nilSl_form (hh : HeapR X w ρ base h) {x : AV} {v : Value} {nl : Bool} (hv : VR X w ρ h x v) (hn : nilSl h x = some nl) : ∃ a n c, v = .slice a n c ∧ nl = a.isNone := by
  cases hv with
  | nils => simp only [nilSl, Option.some.injEq] at hn; subst hn; exact ⟨none, 0, 0, rfl, rfl⟩
  | sl hr =>
    obtain ⟨a, cap, rfl, ha, _⟩ := sl_form hr
    simp only [nilSl, Option.some.injEq] at hn
    exact ⟨a, _, cap, rfl, by rw [← hn, ← ha]⟩
  | slz hz =>
    obtain ⟨a, rfl, rfl⟩ := hz
    simp only [nilSl, Option.some.injEq] at hn
    exact ⟨a, 0, 0, rfl, hn.symm⟩
  | @own i g v he hg ha hs =>
    simp only [nilSl] at hn
    split at hn
    · rename_i t' ty nl' g' l hi
      cases hgg : Nat.beq g g' with
      | false => rw [hgg] at hn; simp at hn
      | true =>
        obtain rfl := Nat.eq_of_beq_eq_true hgg
        rw [hgg] at hn
        simp only [cond_true, Option.some.injEq] at hn
        subst hn
        obtain ⟨r, hr, hher⟩ := hh.ent _ _ hi
        obtain rfl := Option.some.inj (hr.symm.trans (ha _ _ _ _ hi))
        cases hher with
        | lst _ how hnn _ =>
          rcases how with ⟨h0, _, a, rfl⟩ | ⟨gg, cap, cur, ty, fz, rfl, how⟩
          · refine ⟨a, 0, 0, rfl, ?_⟩
            cases a with
            | none => rw [hnn.1 rfl]; rfl
            | some a =>
              cases hq : (nl' && l.isEmpty) with
              | true => have := hnn.2 hq; simp at this
              | false => rfl
          · refine ⟨_, _, _, rfl, ?_⟩
            cases hq : (nl' && l.isEmpty) with
            | true => have := hnn.2 hq; simp at this
            | false => rfl
    · simp at hn
  | _ => simp [nilSl] at hn
theorem sliceK_ops (hT : TabOK P T) (hh : HeapR X w ρ base h) (hb : base ≤ w.heap.size) {A : Operand → AV} {B : Operand → Value} (hAB : ∀ x, VR X w ρ h (A x) (B x)) {t : TypeId} {x : Operand} {lo hi mx : Option Operand} {K : OK R} {r : R}
    (hk : sliceK T h t (A x) (lo.map A) (hi.map A) (mx.map A) K = some r) : OpS X base w ρ h ((do pure (Next.value (← Instr.sliceAt t (B x) (lo.map B) (hi.map B) (mx.map B))) : Sem Next).run P w) K r := by
  have hx := hAB x
  unfold sliceK at hk
  simp only [lenI_eq, sizeI_eq] at hk
  split at hk
  · rename_i inf km m hi' hmx
    have hu := hT.und t inf hi'
    have bnd : ∀ {o : Option Operand} {d a : Int}, asI (o.map A) d = some a → (o.map B = none ∧ a = d) ∨ ∃ k, o.map B = some (.int k a) := fun {o d a} ha =>
      asI_bound (w := w) (ρ := ρ) (h := h) (fun q hq => by cases o with | none => simp at hq | some y => simp at hq; subst hq; exact ⟨B y, rfl, hAB y⟩) (fun hq => by cases o <;> simp_all) ha
    split at hk
    · rename_i e nl l u hd hnl hlo hhi
      rw [hd] at hu
      have h2 := cond_some hk
      clear hk
      obtain ⟨hc, hk⟩ := h2
      simp only [Bool.and_eq_true, decide_eq_true_eq] at hc
      obtain ⟨⟨⟨⟨rfl, rfl⟩, rfl⟩, hsome⟩, hte⟩ := hc
      obtain ⟨k, hte⟩ := Option.isSome_iff_exists.1 hte
      obtain ⟨mo, rfl⟩ : ∃ mo, mx = some mo := by cases mx <;> simp_all
      obtain ⟨ho, rfl⟩ : ∃ ho, hi = some ho := by cases hi <;> simp_all
      have hm : B mo = .int km 0 := by simp only [Option.map_some, Option.some.injEq] at hmx; have := hAB mo; rw [hmx] at this; exact inv_int this
      obtain ⟨kh, hh'⟩ : ∃ kh, B ho = .int kh 0 := by
        rcases bnd hhi with ⟨h1, _⟩ | ⟨k, h1⟩
        · simp at h1
        · simp only [Option.map_some, Option.some.injEq] at h1; exact ⟨k, h1⟩
      obtain ⟨ad, len, cap, hv, hnn⟩ := nilSl_form hh hx hnl
      rw [hv]
      have hrun : (Instr.sliceAt t (.slice ad len cap) (lo.map B) (some (B ho)) (some (B mo))).run P w = .ok (.slice ad 0 0) w := by
        rw [hm, hh']
        rcases bnd hlo with ⟨h1, _⟩ | ⟨k', h1⟩
        · rw [h1]
          simp only [Instr.sliceAt, Sem.run_bind, run_underlying hu, Result.andThen_ok, Instr.slice, Instr.sliceBounds, Instr.sliceBound, asIntOf, Sem.run_pure, Int.le_refl, Int.natCast_nonneg, and_self, if_true, Int.toNat_zero, run_sizeOf hT hte]
          try simp
        · rw [h1]
          simp only [Instr.sliceAt, Sem.run_bind, run_underlying hu, Result.andThen_ok, Instr.slice, Instr.sliceBounds, Instr.sliceBound, asIntOf, Sem.run_pure, Int.le_refl, Int.natCast_nonneg, and_self, if_true, Int.toNat_zero, run_sizeOf hT hte]
          try simp
      refine OpS.of _ hrun hk ⟨ρ, hh, .slz ⟨_, rfl, hnn⟩, .refl _ _ _, Below.refl _ _⟩
    · simp at hk
  · rename_i inf hi' hmx
    have hmx' : mx = none := by cases mx <;> simp_all
    subst hmx'
    have hu := hT.und t inf hi'
    have bnd : ∀ {o : Option Operand} {d a : Int}, asI (o.map A) d = some a → (o.map B = none ∧ a = d) ∨ ∃ k, o.map B = some (.int k a) := fun {o d a} ha =>
      asI_bound (w := w) (ρ := ρ) (h := h) (fun q hq => by cases o with | none => simp at hq | some y => simp at hq; subst hq; exact ⟨B y, rfl, hAB y⟩) (fun hq => by cases o <;> simp_all) ha
    split at hk
    · rename_i s hd hA
      rw [hd] at hu
      split at hk
      · rename_i l u hl hu'
        obtain ⟨hc, hk'⟩ := cond_some hk
        simp only [Bool.and_eq_true, decide_eq_true_eq] at hc
        rw [hA] at hx
        rw [inv_str hx]
        refine OpS.of _ ?_ hk' ⟨ρ, hh, .str _, .refl _ _ _, Below.refl _ _⟩
        have := run_bounds (P := P) (w := w) (b := false) (len := s.size) (cap := s.size) (bnd hl) (bnd hu') hc.1.1 hc.1.2 hc.2 (Nat.le_refl _)
        simp only [Option.map_none, Instr.sliceAt, Sem.run_bind, run_underlying hu, Result.andThen_ok, Instr.slice, Option.isSome_none, Bool.false_eq_true, if_false, this, Sem.run_pure]
      · simp at hk
    · rename_i e τ nl l hd hA
      rw [hd] at hu
      split at hk
      · rename_i a u ha hu'
        split at hk
        · rename_i k hk'
          obtain ⟨hc, hk⟩ := cond_some hk
          simp only [Bool.and_eq_true, decide_eq_true_eq] at hc
          obtain ⟨⟨⟨hsz, h0⟩, h1⟩, h2⟩ := hc
          have hsz := Nat.eq_of_beq_eq_true hsz
          rw [hA] at hx
          obtain ⟨ad, cap, hv, hl, hr⟩ := slice_sl (inv_sl hx) (a := a.toNat) (u := u.toNat) (by omega) (by omega)
          rw [hv]
          have e1 : (u - a).toNat = u.toNat - a.toNat := by omega
          rw [e1] at hk
          refine OpS.of _ (run_slice_sl hT hu hk' (bnd ha) (bnd hu') h0 h1 h2 hl) hk ⟨ρ, hh, .sl ?_, .refl _ _ _, Below.refl _ _⟩
          rw [← hsz]; exact hr
        · simp at hk
      · simp at hk
    · rename_i e id g hd hA
      rw [hd] at hu
      split at hk
      · rename_i τ ty nl g' l hi
        split at hk
        · rename_i a u ha hu'
          split at hk
          · rename_i k hk'
            have h2 := cond_some hk
            clear hk
            obtain ⟨hc, hk⟩ := h2
            simp only [Bool.and_eq_true, decide_eq_true_eq] at hc
            obtain ⟨⟨⟨⟨hsz, hgg⟩, h0⟩, h1⟩, h2⟩ := hc
            have hsz := Nat.eq_of_beq_eq_true hsz
            obtain rfl := Nat.eq_of_beq_eq_true hgg
            rw [hA] at hx
            generalize B x = bx at *
            cases hx with
            | own hx1 hg1 hown hs =>
              have hown := hown _ _ _ _ hi
              obtain ⟨rl, hrl, hher⟩ := hh.ent _ _ hi
              obtain rfl := Option.some.inj (hrl.symm.trans hown)
              obtain ⟨k1, f, k2, k3⟩ := set_entry hh hi hown (e := .dead (g + 1)) (rl := .d) (w' := w) hb (Nat.le_refl _) (fun _ _ _ => rfl) (fun n hn => by simp [RL.block] at hn) (by simp [HE.ver])
                (fun t ty nl g l he => by cases he) (fun _ he => by cases he) (fun _ => .dead _)
              have hno : ∀ n, vblock bx = some n → ¬ owned X (ρ.set id .d) n := fun n hn ho => by
                rcases ho with hX | ⟨r', hr', hn'⟩
                · have := hh.ext n hX; have := (hh.lo id _ n hown hn).1; omega
                obtain ⟨q, hq⟩ := List.mem_iff_getElem?.1 hr'
                by_cases hiq : id = q
                · subst hiq
                  rw [k3] at hq
                  obtain rfl := Option.some.inj hq
                  simp [RL.block] at hn'
                · rw [List.getElem?_set_ne hiq] at hq
                  exact hiq (hh.dist id q _ r' n hown hq hn hn')
              have hrc := RC_own (O' := owned X (ρ.set id .d)) (fun b ho => by
                rcases ho with hX | ⟨r', hr', hn'⟩
                · exact .inl hX
                obtain ⟨q, hq⟩ := List.mem_iff_getElem?.1 hr'
                by_cases hiq : id = q
                · subst hiq
                  rw [k3] at hq
                  obtain rfl := Option.some.inj hq
                  simp [RL.block] at hn'
                · rw [List.getElem?_set_ne hiq] at hq
                  exact owned_of hq hn') hher hno
              obtain ⟨ad, cap, hv, hl, hr⟩ := slice_sl hrc (a := a.toNat) (u := u.toNat) (by omega) (by omega)
              rw [hv]
              have e1 : (u - a).toNat = u.toNat - a.toNat := by omega
              rw [e1] at hk
              refine OpS.of _ (run_slice_sl hT hu hk' (bnd ha) (bnd hu') h0 h1 h2 hl) hk ⟨_, k1, .sl ?_, f, Below.refl _ _⟩
              rw [← hsz]; exact hr
          · simp at hk
        · simp at hk
      · simp at hk
    · simp at hk
  · simp at hk
end
end Go.Proofs.YtibdnfknokkadaaDoor.Ev
