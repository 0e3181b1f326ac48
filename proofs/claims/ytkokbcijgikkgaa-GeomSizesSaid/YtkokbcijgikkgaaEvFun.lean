/- Functions on plain data: the evaluator's word is the contract. -/
import Derived.Test.YtkokbcijgikkgaaEvTop
set_option linter.unusedVariables false
set_option linter.unusedSimpArgs false
namespace Go.Proofs.Ytkokbcijgikkgaa.Ev
open Go Go.RowKit
variable {X : Nat → Prop}

section
variable {R : Type} {P : Program} {T : Tab} {F : PT} {C : CallK R} {O : CutK R} {s : From}
def resV (st : Array Value) : ResultVar → Sem Value
  | .tmp t => pure (st.getD t undef)
  | .cell a t => do loadVar t (← asAddr (st.getD a undef))
theorem resK_sound (hT : TabOK P T) {st : St} {a : Act} {w : World} {ρ : Rho} (h1 : HeapR X w ρ s.base st.heap) (h2 : EnvR X w ρ st.heap st.env a.tmps) : ∀ (l : List ResultVar) (K : List AV → Option R) (r : R), resK T st l K = some r →
    ∃ avs us, K avs = some r ∧ (l.mapM (resV a.tmps)).run P w = .ok us w ∧ VRs X w ρ st.heap avs us
  | [], K, r, hk => ⟨[], [], hk, rfl, .nil _ _ _⟩
  | .tmp t :: l, K, r, hk => by
    obtain ⟨avs, us, k1, k2, k3⟩ := resK_sound hT h1 h2 l _ r hk
    refine ⟨_, a.tmps.getD t undef :: us, k1, ?_, .cons (h2 t) k3⟩
    rw [List.mapM_cons]
    simp only [resV, Sem.run_bind, Sem.run_pure, Result.andThen_ok, k2]
  | .cell p t :: l, K, r, hk => by
    simp only [resK] at hk
    split at hk
    · rename_i i hi
      obtain ⟨cs, ad, g1, g2, g3⟩ := behind_sound h1 (h2 p) hk
      obtain ⟨av, u, g4, g5, g6⟩ := part_load hT hi g3 g1
      obtain ⟨avs, us, k1, k2, k3⟩ := resK_sound hT h1 h2 l _ r g4
      refine ⟨_, u :: us, k1, ?_, .cons g6 k3⟩
      rw [List.mapM_cons]
      simp only [resV, Sem.run_bind, Sem.run_pure, Result.andThen_ok, g2, asAddr, g5, k2]
    · simp at hk
theorem results_run {fn : Func} {tmps : Array Value} {w : World} {us : List Value} (h : (fn.results.toList.mapM (resV tmps)).run P w = .ok us w) : (results fn tmps).run P w = .ok (oneOrTupV us) w := by
  have e : results fn tmps = (do let vs ← fn.results.mapM (resV tmps); pure (if h : vs.size = 1 then vs[0] else .tuple vs)) := by
    unfold results
    congr 2
  rw [e, Array.mapM_eq_mapM_toList]
  simp only [Sem.run_bind, Sem.run_map, h, Result.andThen_ok, Sem.run_pure]
  congr 1
  match us with
  | [] => rfl
  | [v] => rfl
  | v :: v' :: vs => simp [oneOrTupV]
theorem look_number : ∀ (args : List AV) (k t : Nat), look (number k args) t = if t < k then .junk else args.getD (t - k) .junk
  | [], k, t => by simp [number, look]
  | c :: args, k, t => by
    simp only [number, look]
    cases hb : Nat.beq k t with
    | true =>
      have := Nat.eq_of_beq_eq_true hb
      subst this
      simp
    | false =>
      have hne : k ≠ t := Nat.ne_of_beq_eq_false hb
      simp only [cond_false]
      rw [look_number args (k + 1) t]
      by_cases hlt : t < k
      · rw [if_pos hlt, if_pos (by omega)]
      · rw [if_neg hlt, if_neg (by omega)]
        have : t - k = (t - (k + 1)) + 1 := by omega
        rw [this]; simp
theorem body_sound (hm : P.follows .mixedOrders = true) (hT : TabOK P T) (hF : FOK P F) {base : Nat} (hC : COK X base P C) {g : FuncId} {fn : Func} (hfn : P.funcs[g]? = some fn) {hi : Hint} (hcut : ∀ c, fn.body = some c → CutsOK T F C O c hi) {args : List AV} {h : List HE} {K : List AV → List HE → Option R} {r : R} (hk : bodyK T F C O hi fn args h K = some r)
    {w : World} {ρ : Rho} {vs : Array Value} (hh : HeapR X w ρ base h) (hb : base ≤ w.heap.size) (hv : VRs X w ρ h args vs.toList) :
    Calls P g vs w fun e w' => ∃ us avs h' ρ', e = .returned (oneOrTupV us) ∧ K avs h' = some r ∧ HeapR X w' ρ' base h' ∧ VRs X w' ρ' h' avs us ∧ Fwd X w ρ h w' ρ' h' ∧ Below base w w' := by
  unfold bodyK at hk
  split at hk
  · rename_i c hc
    let s : From := ⟨base, w, ρ, h⟩
    have hlen : args.length = vs.size := by simpa using hv.1
    refine calls_of_wp hfn hc (ev_sound (s := s) hm hT hF hC c hi _ _ _ _ w (hcut c hc) hk ⟨ρ, hh, ?_, ?_, rfl, .refl _ _ _, Below.refl _ _, hb, rfl, hh.len⟩ ?_)
    · intro t
      show VR X w ρ h (look (number 0 args) t) _
      rw [look_number, if_neg (by omega), Nat.sub_zero]
      by_cases ht : t < args.length
      · have e1 : args.getD t .junk = args[t] := by simp [List.getD, ht]
        have e2 : (vs ++ Array.replicate (fn.ntmps - vs.size) undef).getD t undef = vs[t] := by
          rw [Array.getD_eq_getD_getElem?, Array.getElem?_append_left (by omega)]; simp [show t < vs.size by omega]
        rw [e1, e2]
        exact hv.2 t _ _ (by simp [ht]) (by simp [show t < vs.size by omega])
      · have e1 : args.getD t .junk = .junk := by simp [List.getD, List.getElem?_eq_none (Nat.le_of_not_lt ht)]
        rw [e1]; exact .junk _
    · simp only [startSt, Array.size_append, Array.size_replicate, hlen]; omega
    · intro e st' a' w' hk' ⟨ρ', h1, h2, h3, h4, h5, h6, h7⟩
      have fin : resK T st' fn.results.toList (fun vs => K vs st'.heap) = some r → a'.defers = [] ∧ ∃ v, (results fn a'.tmps).run P w' = .ok v w' ∧
          ∃ us avs h' ρ', Ending.returned v = .returned (oneOrTupV us) ∧ K avs h' = some r ∧ HeapR X w' ρ' base h' ∧ VRs X w' ρ' h' avs us ∧ Fwd X w ρ h w' ρ' h' ∧ Below base w w' := fun hk' => by
        obtain ⟨avs, us, k1, k2, k3⟩ := resK_sound (s := s) hT h1 h2 _ _ r hk'
        exact ⟨h4, _, results_run k2, us, avs, st'.heap, ρ', rfl, k1, h1, k3, h5, h6⟩
      cases e with
      | normal => exact fin hk'
      | ret => exact fin hk'
      | exit j => simp at hk'
  · simp at hk

/-- Functions that are entered where they are called. -/
abbrev InlT (R : Type) := FuncId → Nat → Option (Hint × Func × (Nat → CutK R))
def inlK (T : Tab) (F : PT) (I : InlT R) : Nat → CallK R
  | 0 => fun _ _ _ _ => none
  | d + 1 => fun g args h K => match I g h.length with
    | some (hi, fn, O) => bodyK T F (inlK T F I d) (O d) hi fn args h fun vs h' => K (oneOrTup vs) h'
    | none => none
def IOK (P : Program) (T : Tab) (F : PT) (I : InlT R) : Prop := ∀ g m hi fn O, I g m = some (hi, fn, O) → P.funcs[g]? = some fn ∧ Ent P g ∧ ∀ d c, fn.body = some c → CutsOK T F (inlK T F I d) (O d) c hi
theorem inlK_sound (hm : P.follows .mixedOrders = true) (hT : TabOK P T) (hF : FOK P F) {base : Nat} {I : InlT R} (hI : IOK P T F I) : ∀ d, COK X base P (inlK T F I d)
  | 0 => fun g args h K r hk => by simp [inlK] at hk
  | d + 1 => fun g args h K r hk => by
    simp only [inlK] at hk
    split at hk
    · rename_i hi fn O hg
      obtain ⟨hfn, hent, hcut⟩ := hI g _ hi fn O hg
      refine ⟨hent, fun w ρ vs hh hb hv => ?_⟩
      refine (body_sound hm hT hF (inlK_sound hm hT hF hI d) hfn (hcut d) hk hh hb hv).mono ?_
      rintro e w' ⟨us, avs, h', ρ', rfl, k1, k2, k3, k4, k5⟩
      exact ⟨_, _, h', rfl, k1, ⟨ρ', k2, oneOrTup_sound k3, k4, k5⟩⟩
    · simp at hk
theorem shapeV_unflat : ∀ (ps : List (Bool × Nat)) (cells vs : List Value), shapeV ps cells vs → unflatV ps cells = vs
  | [], _, _, h => by obtain ⟨_, rfl⟩ := h; rfl
  | (true, n) :: r, cells, vs, h => by
    obtain ⟨cs, vs', rfl, h1, h2, h3⟩ := h
    simp only [unflatV, h2, shapeV_unflat r _ _ h3]
  | (false, n) :: r, cells, vs, h => by
    obtain ⟨v, cells', vs', rfl, rfl, h3⟩ := h
    simp only [unflatV, shapeV_unflat r _ _ h3]
/-- What a function's results are as plain data. -/
def endK (p : PF) (vs : List AV) (h : List HE) : Option p.σ.den := bif fits p.rs vs && allOK (flats vs) then p.σ.closeAll h (flats vs) else none
/-- The evaluator's word on a function. -/
def evalF (T : Tab) (F : PT) (p : PF) (I : InlT p.σ.den) (d : Nat) (Q : CutK p.σ.den) (hi : Hint) (fn : Func) (x : p.τ.den) : Option p.σ.den :=
  bodyK T F (inlK T F I d) Q hi fn (unflat p.ps (p.τ.cells x)) [] (endK p)
theorem pfok (hm : P.follows .mixedOrders = true) (hT : TabOK P T) (hF : FOK P F) {g : FuncId} {fn : Func} (hfn : P.funcs[g]? = some fn) {p : PF} {I : InlT p.σ.den} (hI : IOK P T F I) {d : Nat} {Q : CutK p.σ.den} {hi : Hint} (hcut : ∀ c, fn.body = some c → CutsOK T F (inlK T F I d) Q c hi)
    (he : ∀ x, evalF T F p I d Q hi fn x = p.f x) : PFOK P g p := by
  intro x y hf O w vs cells hO hr hs
  have hh : HeapR O w [] w.heap.size [] := ⟨rfl, fun i e he => by simp at he, fun i j r r' n hi => by simp at hi, fun i r n hi => by simp at hi, hO⟩
  have hv : VRs O w [] [] (unflat p.ps (p.τ.cells x)) vs.toList := by
    unfold RCP at hr
    split at hr
    · rename_i hp
      rw [hp] at hs ⊢
      obtain ⟨_, hs⟩ := hs
      rw [hs]
      exact .nil _ _ _
    · have hr' : RC (owned O []) w p.τ x cells := RC_mono (fun _ _ _ => rfl) (fun b _ ho => by rcases ho with h | ⟨r, hr, _⟩; exact h; simp at hr) _ _ _ hr
      rw [← shapeV_unflat _ _ _ hs]
      exact unflat_sound p.ps (RC_cells p.τ x cells hr')
  have hk := he x
  rw [hf] at hk
  refine (body_sound hm hT hF (inlK_sound hm hT hF hI d) hfn hcut hk hh (Nat.le_refl _) hv).mono ?_
  rintro e w' ⟨us, avs, h', ρ', rfl, k1, k2, k3, k4, k5⟩
  unfold endK at k1
  have h2 := cond_some k1
  obtain ⟨hc, hcl⟩ := h2
  rw [Bool.and_eq_true] at hc
  obtain ⟨g1, g2⟩ := flats_sound p.rs hc.2 hc.1 k3
  obtain ⟨g3, _⟩ := closeAll_sound k2 (O' := O) (fun b ho => .inl ho) hcl (fun i g hm r n hr hn ho => by
    have := (k2.lo i r n hr hn).1
    have := hO n ho
    omega) g1
  exact ⟨flatsV us, by rw [shapeV_unflat _ _ _ g2], g3, k5⟩
end
end Go.Proofs.Ytkokbcijgikkgaa.Ev
