/- The evaluator's plain operations are the model's, in one word. -/
import Derived.Test.YtibdnfknokkadaaDoorEvOpA
set_option linter.unusedVariables false
set_option linter.unusedSimpArgs false
namespace Go.Proofs.YtibdnfknokkadaaDoor.Ev
open Go Go.RowKit
variable {X : Nat → Prop}

section
variable {R : Type} {w : World} {ρ : Rho} {base : Nat} {h : List HE} {P : Program} {T : Tab}
theorem run_value (s : Sem Value) {v : Value} {w' : World} (hs : s.run P w = .ok v w') : (do pure (Next.value (← s)) : Sem Next).run P w = .ok (.value v) w' := by
  simp only [Sem.run_bind, hs, Result.andThen_ok, Sem.run_pure]
theorem ResV.ops (hh : HeapR X w ρ base h) {s : Sem Value} {K : OK R} {r : R} (hs : ResV X w ρ h P s (fun v => K v []) r) : OpS X base w ρ h ((do pure (Next.value (← s)) : Sem Next).run P w) K r := by
  obtain ⟨av, v, hk, hr, hv⟩ := hs
  rw [run_value s hr]
  exact .same hh hk hv
theorem eqGuard_pure {op : BinOp} {t : TypeId} {x y : Operand} {a b : Value} (hab : (∀ cs, a ≠ .agg cs) ∧ a ≠ .nilIface) : (eqGuard op t x y a b).run P w = .ok () w := by
  cases op <;> first
    | rfl
    | (cases a <;> first
        | exact absurd rfl (hab.1 _)
        | exact absurd rfl hab.2
        | rfl)
theorem bin_ops (hh : HeapR X w ρ base h) {op : BinOp} {t : TypeId} {x y : Operand} {a b : Value} {K : OK R} {r : R} (hab : (∀ cs, a ≠ .agg cs) ∧ a ≠ .nilIface)
    (hs : ResV X w ρ h P (binOp op t a b) (fun v => K v []) r) : OpS X base w ρ h ((do pure (Next.value (← (do eqGuard op t x y a b; binOp op t a b))) : Sem Next).run P w) K r := by
  obtain ⟨av, v, hk, hr, hv⟩ := hs
  rw [run_value _ (v := v) (w' := w) (by simp only [Sem.run_bind, eqGuard_pure hab, Result.andThen_ok, hr])]
  exact .same hh hk hv
theorem binK_plain {op : BinOp} {t : TypeId} {x y : AV} {vx : Value} {K : AV → Option R} {r : R} (hx : VR X w ρ h x vx) (hk : binK T h op t x y K = some r) : (∀ cs, vx ≠ .agg cs) ∧ vx ≠ .nilIface := by
  unfold binK at hk
  split at hk
  · rw [inv_int hx]; exact ⟨(fun _ h => by cases h), (fun h => by cases h)⟩
  · rw [inv_int hx]; exact ⟨(fun _ h => by cases h), (fun h => by cases h)⟩
  · rw [inv_int hx]; exact ⟨(fun _ h => by cases h), (fun h => by cases h)⟩
  · rw [inv_str hx]; exact ⟨(fun _ h => by cases h), (fun h => by cases h)⟩
  · rw [inv_bool hx]; exact ⟨(fun _ h => by cases h), (fun h => by cases h)⟩
  · rw [inv_bool hx]; exact ⟨(fun _ h => by cases h), (fun h => by cases h)⟩
  · simp at hk
theorem nilCmp_form {t : TypeId} {x y : AV} {vx : Value} {b : Bool} (hx : VR X w ρ h x vx) (hb : nilCmp T t h x y = some b) :
    (∃ a n c, vx = .slice a n c) ∨ (∃ a, vx = .pointer a) ∨ vx = .nilFunc ∨ ∃ f a b, vx = .func f a b := by
  unfold nilCmp at hb
  split at hb
  · split at hb
    · cases hx with
      | nils => exact .inl ⟨_, _, _, rfl⟩
      | sl hr => obtain ⟨a, cap, rfl, _⟩ := sl_form hr; exact .inl ⟨_, _, _, rfl⟩
      | slz hz => obtain ⟨a, rfl, _⟩ := hz; exact .inl ⟨_, _, _, rfl⟩
      | own _ _ _ hs => exact .inl hs
      | _ => simp [nilSl] at hb
    · cases hx with
      | ptr _ => exact .inr (.inl ⟨_, rfl⟩)
      | eptr _ _ _ => exact .inr (.inl ⟨_, rfl⟩)
      | ro _ _ _ _ => exact .inr (.inl ⟨_, rfl⟩)
      | lit _ =>
        cases vx with
        | pointer a => exact .inr (.inl ⟨_, rfl⟩)
        | _ => simp [nilPt] at hb
      | _ => simp [nilPt] at hb
    · cases hx with
      | fn _ _ _ _ => exact .inr (.inr (.inr ⟨_, _, _, rfl⟩))
      | lit _ =>
        cases vx with
        | nilFunc => exact .inr (.inr (.inl rfl))
        | _ => simp [nilFn] at hb
      | _ => simp [nilFn] at hb
    · simp at hb
  · simp at hb
theorem nilCmp_plain {t : TypeId} {x y : AV} {vx : Value} {b : Bool} (hx : VR X w ρ h x vx) (hb : nilCmp T t h x y = some b) : (∀ cs, vx ≠ .agg cs) ∧ vx ≠ .nilIface := by
  rcases nilCmp_form hx hb with ⟨a, n, c, rfl⟩ | ⟨a, rfl⟩ | rfl | ⟨f, a, b, rfl⟩ <;> exact ⟨(fun _ h => by cases h), (fun h => by cases h)⟩
theorem nil_res (hT : TabOK P T) (hh : HeapR X w ρ base h) {t : TypeId} {x y : AV} {vx vy : Value} {b : Bool} (hx : VR X w ρ h x vx) (hy : VR X w ρ h y vy) (hb : nilCmp T t h x y = some b) {K : AV → Option R} {r : R} :
    (K (.bool b) = some r → ResV X w ρ h P (binOp .eql t vx vy) K r) ∧ (K (.bool (!b)) = some r → ResV X w ρ h P (binOp .neq t vx vy) K r) := by
  have e := run_equal_nil (base := base) hT hh hx hy hb
  refine ⟨fun hk => resv hk ?_ (.bool _), fun hk => resv hk ?_ (.bool _)⟩
  · have e2 : (do pure (Value.bool (← Op.equal t vx vy)) : Sem Value).run P w = .ok (.bool b) w := by simp only [Sem.run_bind, e, Result.andThen_ok, Sem.run_pure]
    rcases nilCmp_form hx hb with ⟨a, n, c, rfl⟩ | ⟨a, rfl⟩ | rfl | ⟨f, a, b', rfl⟩ <;> exact e2
  · have e2 : (do pure (Value.bool (!(← Op.equal t vx vy))) : Sem Value).run P w = .ok (.bool (!b)) w := by simp only [Sem.run_bind, e, Result.andThen_ok, Sem.run_pure]
    rcases nilCmp_form hx hb with ⟨a, n, c, rfl⟩ | ⟨a, rfl⟩ | rfl | ⟨f, a, b', rfl⟩ <;> exact e2
end
end Go.Proofs.YtibdnfknokkadaaDoor.Ev
