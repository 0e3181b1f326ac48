/- '==' of structs and arrays. -/
import Derived.Test.YtibdnfknokkadaaDoorEvOpC
import Derived.Laws.StructEq
import Derived.ChangeKeysEq
set_option linter.unusedVariables false
set_option linter.unusedSimpArgs false
namespace Go.Proofs.YtibdnfknokkadaaDoor.Ev
open Go Go.RowKit
variable {X : Nat → Prop}

section
variable {R : Type} {w : World} {ρ : Rho} {base : Nat} {h : List HE} {P : Program} {T : Tab}
theorem part_pair (hT : TabOK P T) {t : TypeId} {i : Inf} (ht : T t = some i) {cs : List AV} {vs : Array Value} (hl : cs.length = vs.size) (hh : ∀ (i : Nat) (c : AV) (v : Value), cs[i]? = some c → vs[i]? = some v → VR X w ρ h c v)
    {off : Nat} {a : AV} (hk : partK i (cs.drop off) some = some a) : ∃ v, (part t vs off).run P w = .ok v w ∧ VR X w ρ h a v := by
  obtain ⟨av, v, h1, h2, h3⟩ := part_of hT ht hl hh hk
  cases h1
  exact ⟨v, h2, h3⟩
theorem eqV_sound (hT : TabOK P T) : ∀ (d : Nat) (t : TypeId) (x y : AV) (vx vy : Value) (b : Bool), VR X w ρ h x vx → VR X w ρ h y vy → eqV T d t x y = some b → ∀ m, d ≤ m → (Op.equalIn m t vx vy).run P w = .ok b w
  | 0, _, _, _, _, _, _, _, _, hb, _, _ => by simp [eqV] at hb
  | d + 1, t, x, y, vx, vy, b, hx, hy, hb, m, hm => by
    obtain ⟨m, rfl⟩ : ∃ m', m = m' + 1 := ⟨m - 1, by omega⟩
    have hm : d ≤ m := by omega
    simp only [eqV] at hb
    split at hb
    · rename_i i hi
      have hu := hT.und t i hi
      split at hb
      · rename_i a b' hd
        rw [hd] at hu
        rw [inv_bool hx, inv_bool hy, run_equalIn_bool' w m t a b' hu]
        rw [Option.some.inj hb]
      · rename_i k0 k a k' b' hd
        rw [hd] at hu
        split at hb
        · rename_i hk
          subst hk
          rw [inv_int hx, inv_int hy, run_equalIn_int w m t k k0 a b' hu]
          rw [← Option.some.inj hb]
          congr 1
        · cases hb
      · rename_i a b' hd
        rw [hd] at hu
        rw [inv_str hx, inv_str hy, run_equalIn_string w m t a b' hu]
        rw [← Option.some.inj hb]
        congr 1
        rw [Bool.eq_iff_iff, beq_iff_eq, decide_eq_true_iff, ByteArray.toList_eq, ByteArray.toList_eq]
        constructor
        · intro e
          obtain ⟨⟨x⟩⟩ := a
          obtain ⟨⟨y⟩⟩ := b'
          simp only at e
          rw [e]
        · intro e
          rw [e]
      · rename_i fs cs ds hd
        rw [hd] at hu
        have h2 := cond_some hb
        clear hb
        obtain ⟨he, hb⟩ := h2
        obtain ⟨e1, _, e3⟩ := hT.eqs t i hi he
        have e3 := e3 fs hd
        obtain ⟨xs, rfl, lx, rx⟩ := inv_agg hx
        obtain ⟨ys, rfl, ly, ry⟩ := inv_agg hy
        have hf : P.fieldsOf t = fs := by simp [Program.fieldsOf, hu]
        rw [run_equalIn_struct w m t xs ys (by rw [hf]; exact hu) e1, hf]
        generalize fs.toList = l at hb e3
        clear hd hu hf
        induction l generalizing b with
        | nil => simp only [eqFs, Option.some.injEq] at hb; subst hb; rfl
        | cons f l ih =>
          simp only [eqFs] at hb
          split at hb
          · rename_i j hj
            split at hb
            · rename_i a b' ha hb'
              split at hb
              · rename_i p q hp hq
                have hn := e3 f (by simp)
                obtain ⟨va, a1, a2⟩ := part_pair hT hj lx rx ha
                obtain ⟨vb, b1, b2⟩ := part_pair hT hj ly ry hb'
                have hr := eqV_sound hT d _ _ _ _ _ p a2 b2 hp m hm
                have hi' := ih q hq (fun g hg => e3 g (by simp [hg]))
                have hbq := Option.some.inj hb
                subst hbq
                simp only [Op.eqFields, ne_eq, hn, not_false_eq_true, if_true, Sem.run_bind, a1, b1, hr, Result.andThen_ok]
                cases p
                · simp
                · simpa using hi'
              · cases hb
            · cases hb
          · cases hb
      · rename_i n e cs ds hd
        rw [hd] at hu
        have h2 := cond_some hb
        clear hb
        obtain ⟨he, hb⟩ := h2
        obtain ⟨xs, rfl, lx, rx⟩ := inv_agg hx
        obtain ⟨ys, rfl, ly, ry⟩ := inv_agg hy
        split at hb
        · rename_i j hj
          obtain ⟨ti, hti, hsz, _⟩ := hT.info e j hj
          have hc : P.cellsOf e = j.size := by simp [Program.cellsOf, hti, hsz]
          rw [run_equalIn_array w m xs ys hu hti, hc]
          generalize List.range n = l at hb
          induction l generalizing b with
          | nil => simp only [eqEs, Option.some.injEq] at hb; subst hb; rfl
          | cons q l ih =>
            simp only [eqEs] at hb
            split at hb
            · rename_i a b' ha hb'
              split at hb
              · rename_i p q' hp hq
                obtain ⟨va, a1, a2⟩ := part_pair hT hj lx rx ha
                obtain ⟨vb, b1, b2⟩ := part_pair hT hj ly ry hb'
                have hr := eqV_sound hT d _ _ _ _ _ p a2 b2 hp m hm
                have hi' := ih q' hq
                have hbq := Option.some.inj hb
                subst hbq
                simp only [Op.eqItems, Sem.run_bind, a1, b1, hr, Result.andThen_ok]
                cases p
                · simp
                · simpa using hi'
              · cases hb
            · cases hb
        · cases hb
      · cases hb
    · cases hb
theorem eqCmp_ops (hT : TabOK P T) (hh : HeapR X w ρ base h) {t : TypeId} {x y : AV} {vx vy : Value} {b : Bool} {x' y' : Operand} (hx : VR X w ρ h x vx) (hy : VR X w ρ h y vy) (hb : eqCmp T t h x y = some b) {K : OK R} {r : R} :
    (K (.bool b) [] = some r → OpS X base w ρ h ((do pure (Next.value (← (do eqGuard .eql t x' y' vx vy; binOp .eql t vx vy))) : Sem Next).run P w) K r) ∧
    (K (.bool (!b)) [] = some r → OpS X base w ρ h ((do pure (Next.value (← (do eqGuard .neq t x' y' vx vy; binOp .neq t vx vy))) : Sem Next).run P w) K r) := by
  unfold eqCmp at hb
  split at hb
  · rename_i cs ds
    have h2 := cond_some hb
    clear hb
    obtain ⟨he, hb⟩ := h2
    obtain ⟨xs, rfl, lx, rx⟩ := inv_agg hx
    obtain ⟨ys, rfl, ly, ry⟩ := inv_agg hy
    have hg : P.eqGuardType P.depth t = false := by
      unfold eqsT at he
      split at he
      · rename_i i hi; exact (hT.eqs t i hi he).2.1
      · cases he
    have e := eqV_sound hT 8 t _ _ _ _ b hx hy hb 10000 (by omega)
    refine ⟨fun hk => ?_, fun hk => ?_⟩
    · rw [run_value _ (v := .bool b) (w' := w) (by simp only [Sem.run_bind, run_eqGuard_agg w .eql t x' y' xs ys hg, Result.andThen_ok, run_eql_struct, e])]
      exact .same hh hk (.bool b)
    · rw [run_value _ (v := .bool (!b)) (w' := w) (by simp only [Sem.run_bind, run_eqGuard_agg w .neq t x' y' xs ys hg, Result.andThen_ok, run_neq_struct, e])]
      exact .same hh hk (.bool (!b))
  · exact ⟨fun hk => bin_ops hh (nilCmp_plain hx hb) ((nil_res hT hh hx hy hb).1 hk), fun hk => bin_ops hh (nilCmp_plain hx hb) ((nil_res hT hh hx hy hb).2 hk)⟩
end
end Go.Proofs.YtibdnfknokkadaaDoor.Ev
