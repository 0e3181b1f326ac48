/- Functions on plain data: the evaluator's word is the contract. -/
import Derived.Test.YtibdnfknokkadaaDoorEvTop
set_option linter.unusedVariables false
set_option linter.unusedSimpArgs false
namespace Go.Proofs.YtibdnfknokkadaaDoor.Ev
open Go Go.RowKit
variable {X : Nat → Prop}

section
variable {R : Type} {P : Program} {T : Tab} {F : PT} {C : CallK R} {O : CutK R} {s : From}
def resV (st : Array Value) : ResultVar → Sem Value
  | .tmp t => pure (st.getD t undef)
  | .cell a t => do loadVar t (← asAddr (st.getD a undef))
theorem resK_sound (hT : TabOK P T) {st : St} {a : Act} {w : World} {ρ : Rho} (h1 : HeapR X w ρ s.base st.heap) (h2 : EnvR X w ρ st.heap st.env a.tmps) : ∀ (l : List ResultVar) (K : List AV → Option R) (r : R), resK T st l K = some r →
    ∃ avs us, K avs = some r ∧ (l.mapM (resV a.tmps)).run P w = .ok us w ∧ VRs X w ρ st.heap avs us
  | [], K, r, hk => ⟨[], [], hk, rfl, .nil _ _ _⟩
  | .tmp t :: l, K, r, hk => by
    obtain ⟨avs, us, k1, k2, k3⟩ := resK_sound hT h1 h2 l _ r hk
    refine ⟨_, a.tmps.getD t undef :: us, k1, ?_, .cons (h2 t) k3⟩
    rw [List.mapM_cons]
    simp only [resV, Sem.run_bind, Sem.run_pure, Result.andThen_ok, k2]
  | .cell p t :: l, K, r, hk => by
    simp only [resK] at hk
    split at hk
    · rename_i i hi
      obtain ⟨cs, ad, g1, g2, g3⟩ := behind_sound h1 (h2 p) hk
      obtain ⟨av, u, g4, g5, g6⟩ := part_load hT hi g3 g1
      obtain ⟨avs, us, k1, k2, k3⟩ := resK_sound hT h1 h2 l _ r g4
      refine ⟨_, u :: us, k1, ?_, .cons g6 k3⟩
      rw [List.mapM_cons]
      simp only [resV, Sem.run_bind, Sem.run_pure, Result.andThen_ok, g2, asAddr, g5, k2]
    · simp at hk
theorem results_run {fn : Func} {tmps : Array Value} {w : World} {us : List Value} (h : (fn.results.toList.mapM (resV tmps)).run P w = .ok us w) : (results fn tmps).run P w = .ok (oneOrTupV us) w := by
  have e : results fn tmps = (do let vs ← fn.results.mapM (resV tmps); pure (if h : vs.size = 1 then vs[0] else .tuple vs)) := by
    unfold results
    congr 2
  rw [e, Array.mapM_eq_mapM_toList]
  simp only [Sem.run_bind, Sem.run_map, h, Result.andThen_ok, Sem.run_pure]
  congr 1
  match us with
  | [] => rfl
  | [v] => rfl
  | v :: v' :: vs => simp [oneOrTupV]
theorem look_number : ∀ (args : List AV) (k t : Nat), look (number k args) t = if t < k then .junk else args.getD (t - k) .junk
  | [], k, t => by simp [number, look]
  | c :: args, k, t => by
    simp only [number, look]
    cases hb : Nat.beq k t with
    | true =>
      have := Nat.eq_of_beq_eq_true hb
      subst this
      simp
    | false =>
      have hne : k ≠ t := Nat.ne_of_beq_eq_false hb
      simp only [cond_false]
      rw [look_number args (k + 1) t]
      by_cases hlt : t < k
      · rw [if_pos hlt, if_pos (by omega)]
      · rw [if_neg hlt, if_neg (by omega)]
        have : t - k = (t - (k + 1)) + 1 := by omega
        rw [this]; simp
theorem body_sound (hm : P.follows .mixedOrders = true) (hT : TabOK P T) (hF : FOK P T F) {base : Nat} (hC : COK X base P T C) {g : FuncId} {fn : Func} (hfn : P.funcs[g]? = some fn) {hi : Hint} (hcut : ∀ c, fn.body = some c → CutsOK T F C O c hi) {args : List AV} {h : List HE} {K : List AV → List HE → Option R} {r : R} (hk : bodyK T F C O hi fn args h K = some r)
    {w : World} {ρ : Rho} {vs : Array Value} (hh : HeapR X w ρ base h) (hb : base ≤ w.heap.size) (hg : GlR X w ρ h T) (hv : VRs X w ρ h args vs.toList) :
    Calls P g vs w fun e w' => ∃ us avs h' ρ', e = .returned (oneOrTupV us) ∧ K avs h' = some r ∧ HeapR X w' ρ' base h' ∧ VRs X w' ρ' h' avs us ∧ Fwd X w ρ h w' ρ' h' ∧ Below base w w' := by
  unfold bodyK at hk
  split at hk
  · rename_i c hc
    let s : From := ⟨base, w, ρ, h⟩
    have hlen : args.length = vs.size := by simpa using hv.1
    refine calls_of_wp hfn hc (ev_sound (s := s) hm hT hF hg hC c hi _ _ _ _ w (hcut c hc) hk ⟨ρ, hh, ?_, ?_, rfl, .refl _ _ _, Below.refl _ _, hb, rfl, hh.len⟩ ?_)
    · intro t
      show VR X w ρ h (look (number 0 args) t) _
      rw [look_number, if_neg (by omega), Nat.sub_zero]
      by_cases ht : t < args.length
      · have e1 : args.getD t .junk = args[t] := by simp [List.getD, ht]
        have e2 : (vs ++ Array.replicate (fn.ntmps - vs.size) undef).getD t undef = vs[t] := by
          rw [Array.getD_eq_getD_getElem?, Array.getElem?_append_left (by omega)]; simp [show t < vs.size by omega]
        rw [e1, e2]
        exact hv.2 t _ _ (by simp [ht]) (by simp [show t < vs.size by omega])
      · have e1 : args.getD t .junk = .junk := by simp [List.getD, List.getElem?_eq_none (Nat.le_of_not_lt ht)]
        rw [e1]; exact .junk _
    · simp only [startSt, Array.size_append, Array.size_replicate, hlen]; omega
    · intro e st' a' w' hk' ⟨ρ', h1, h2, h3, h4, h5, h6, h7⟩
      have fin : resK T st' fn.results.toList (fun vs => K vs st'.heap) = some r → a'.defers = [] ∧ ∃ v, (results fn a'.tmps).run P w' = .ok v w' ∧
          ∃ us avs h' ρ', Ending.returned v = .returned (oneOrTupV us) ∧ K avs h' = some r ∧ HeapR X w' ρ' base h' ∧ VRs X w' ρ' h' avs us ∧ Fwd X w ρ h w' ρ' h' ∧ Below base w w' := fun hk' => by
        obtain ⟨avs, us, k1, k2, k3⟩ := resK_sound (s := s) hT h1 h2 _ _ r hk'
        exact ⟨h4, _, results_run k2, us, avs, st'.heap, ρ', rfl, k1, h1, k3, h5, h6⟩
      cases e with
      | normal => exact fin hk'
      | ret => exact fin hk'
      | exit j => simp at hk'
  · simp at hk

/-- Functions that are entered where they are called. -/
abbrev InlT (R : Type) := FuncId → Nat → Option (Hint × Func × (Nat → CutK R))
noncomputable def inlK (T : Tab) (F : PT) (I : InlT R) : Nat → CallK R
  | 0 => fun _ _ _ _ => none
  | d + 1 => fun g args h K => match I g h.length with
    | some (hi, fn, O) => bodyK T F (inlK T F I d) (O d) hi fn args h fun vs h' => K (oneOrTup (thawR vs h').1) (thawR vs h').2
    | none => none
theorem thawR_sound {w : World} {base : Nat} (hb : base ≤ w.heap.size) : ∀ (vs : List AV) (us : List Value) {ρ : Rho} {h : List HE}, HeapR X w ρ base h → VRs X w ρ h vs us →
    ∃ ρ', HeapR X w ρ' base (thawR vs h).2 ∧ VRs X w ρ' (thawR vs h).2 (thawR vs h).1 us ∧ Fwd X w ρ h w ρ' (thawR vs h).2
  | [], us, ρ, h, hh, hv => ⟨ρ, hh, hv, .refl _ _ _⟩
  | c :: r, us, ρ, h, hh, hv => by
    obtain ⟨v, us', rfl, h1, h2⟩ := hv.uncons
    have plain : ∀ c' : AV, VR X w ρ h c' v → ∃ ρ', HeapR X w ρ' base (thawR r h).2 ∧ VRs X w ρ' (thawR r h).2 (c' :: (thawR r h).1) (v :: us') ∧ Fwd X w ρ h w ρ' (thawR r h).2 := fun c' hc' => by
      obtain ⟨ρ', k1, k2, k3⟩ := thawR_sound hb r us' hh h2
      exact ⟨ρ', k1, .cons (VR_fwd k3 hc') k2, k3⟩
    cases c with
    | vw i g z k n =>
      simp only [thawR]
      split
      · rename_i t ty nl g' l hi
        cases hc : (Nat.beq g g' && Nat.beq t.size z) with
        | false => simp only [cond_false]; exact plain _ (.junk _)
        | true =>
          simp only [cond_true]
          rw [Bool.and_eq_true] at hc
          obtain rfl := Nat.eq_of_beq_eq_true hc.1
          obtain rfl := Nat.eq_of_beq_eq_true hc.2
          obtain ⟨rl, hrl, hher⟩ := hh.ent _ _ hi
          cases h1 with
          | vw he h0 ha =>
            obtain ⟨a, m, c, a', hr, hv', hle, had, hnn⟩ := ha _ _ _ _ hi
            obtain rfl := Option.some.inj (hrl.symm.trans hr)
            obtain ⟨k1, f, k2, k3⟩ := set_entry hh hi hr (e := .dead (g + 1)) (rl := .d) (w' := w) hb (Nat.le_refl _) (fun _ _ _ => rfl) (fun n hn => by simp [RL.block] at hn) (by simp [HE.ver])
              (fun t ty nl g l he => by cases he) (fun _ he => by cases he) (fun _ => .dead _)
            have hno : ∀ q, vblock (.slice a m c) = some q → ¬ owned X (ρ.set i .d) q := fun q hn ho => by
              rcases ho with hX | ⟨r', hr', hn'⟩
              · have := hh.ext q hX; have := (hh.lo i _ q hr hn).1; omega
              obtain ⟨p, hp⟩ := List.mem_iff_getElem?.1 hr'
              by_cases hip : i = p
              · subst hip
                rw [k3] at hp
                obtain rfl := Option.some.inj hp
                simp [RL.block] at hn'
              · rw [List.getElem?_set_ne hip] at hp
                exact hip (hh.dist i p _ r' q hr hp hn hn')
            have hrc := RC_own (O' := owned X (ρ.set i .d)) (fun b ho => by
              rcases ho with hX | ⟨r', hr', hn'⟩
              · exact .inl hX
              obtain ⟨p, hp⟩ := List.mem_iff_getElem?.1 hr'
              by_cases hip : i = p
              · subst hip
                rw [k3] at hp
                obtain rfl := Option.some.inj hp
                simp [RL.block] at hn'
              · rw [List.getElem?_set_ne hip] at hp
                exact owned_of hp hn') hher hno
            have hml : m = l.length := by
              cases hher with
              | lst _ how _ _ => obtain ⟨a0, c0, e0, _⟩ := how.sl; simp only [Value.slice.injEq] at e0; exact e0.2.1
            obtain ⟨ad, cap, hv2, hl2, hr2⟩ := slice_sl hrc (a := k.toNat) (u := k.toNat + n.toNat) (by omega) (by omega)
            simp only [Value.slice.injEq] at hv2
            obtain ⟨rfl, _, rfl⟩ := hv2
            have hsl : RC (owned X (ρ.set i .d)) w (.sl t) (nl && l.isEmpty, (l.drop k.toNat).take n.toNat) [.slice a' n.toNat (c - k.toNat)] := by
              rw [Nat.add_sub_cancel_left] at hr2
              by_cases hkc : k.toNat < c
              · rw [if_neg (by omega)] at hr2
                rw [had hkc]; exact hr2
              · have e1 : c = k.toNat := by omega
                rw [if_pos e1] at hr2
                have hn0 : n.toNat = 0 := by omega
                rw [hn0] at hr2 ⊢
                simp only [List.take_zero, RC] at hr2 ⊢
                obtain ⟨a1, cap1, e2, e3, _, e5, _⟩ := hr2
                simp only [List.cons.injEq, Value.slice.injEq, and_true] at e2
                obtain ⟨rfl, _, rfl⟩ := e2
                exact ⟨a', c - k.toNat, rfl, by rw [hnn]; exact e3, Nat.zero_le _, fun _ => by omega, by simp⟩
            obtain ⟨ρ', q1, q2, q3⟩ := thawR_sound hb r us' k1 (h2.fwd f)
            refine ⟨ρ', q1, .cons ?_ q2, f.trans q3⟩
            rw [hv']
            exact VR_fwd q3 (.sl hsl)
      · exact plain _ (.junk _)
    | _ => exact plain _ h1
def IOK (P : Program) (T : Tab) (F : PT) (I : InlT R) : Prop := ∀ g m hi fn O, I g m = some (hi, fn, O) → P.funcs[g]? = some fn ∧ Ent P g ∧ ∀ d c, fn.body = some c → CutsOK T F (inlK T F I d) (O d) c hi
theorem inlK_sound (hm : P.follows .mixedOrders = true) (hT : TabOK P T) (hF : FOK P T F) {base : Nat} {I : InlT R} (hI : IOK P T F I) : ∀ d, COK X base P T (inlK T F I d)
  | 0 => fun g args h K r hk => by simp [inlK] at hk
  | d + 1 => fun g args h K r hk => by
    simp only [inlK] at hk
    split at hk
    · rename_i hi fn O hg
      obtain ⟨hfn, hent, hcut⟩ := hI g _ hi fn O hg
      refine ⟨hent, fun w ρ vs hh hb hg hv => ?_⟩
      refine (body_sound hm hT hF (inlK_sound hm hT hF hI d) hfn (hcut d) hk hh hb hg hv).mono ?_
      rintro e w' ⟨us, avs, h', ρ', rfl, k1, k2, k3, k4, k5⟩
      obtain ⟨ρ2, q1, q2, q3⟩ := thawR_sound (Nat.le_trans hb k5.size) avs us k2 k3
      exact ⟨_, _, _, rfl, k1, ⟨ρ2, q1, oneOrTup_sound q2, k4.trans q3, k5⟩⟩
    · simp at hk
theorem shapeV_unflat : ∀ (ps : List (Bool × Nat)) (cells vs : List Value), shapeV ps cells vs → unflatV ps cells = vs
  | [], _, _, h => by obtain ⟨_, rfl⟩ := h; rfl
  | (true, n) :: r, cells, vs, h => by
    obtain ⟨cs, vs', rfl, h1, h2, h3⟩ := h
    simp only [unflatV, h2, shapeV_unflat r _ _ h3]
  | (false, n) :: r, cells, vs, h => by
    obtain ⟨v, cells', vs', rfl, rfl, h3⟩ := h
    simp only [unflatV, shapeV_unflat r _ _ h3]
/-- Are these results lists of their own? -/
def frOne (h : List HE) (e : TypeId) : AV → Bool
  | .nils => true
  | .slz _ => true
  | .own i g => match h[i]? with
    | some (.lst _ e' _ g' _) => Nat.beq e e' && Nat.beq g g'
    | _ => false
  | _ => false
def frAll (h : List HE) : List (Option TypeId) → List AV → Bool
  | [], _ => true
  | some e :: r, c :: cs => frOne h e c && frAll h r cs
  | none :: r, _ :: cs => frAll h r cs
  | _, [] => false
def nodupN : List Nat → Bool
  | [] => true
  | i :: r => !memN r i && nodupN r
def frOK (h : List HE) (fr : List (Option TypeId)) (cs : List AV) : Bool := match fr with
  | [] => true
  | fr => frAll h fr cs && nodupN (idsOf cs)
/-- What a function's results are as plain data. -/
def endK (p : PF) (vs : List AV) (h : List HE) : Option p.σ.den := bif fits p.rs vs && allOK (flats vs) && frOK h p.fr (flats vs) then p.σ.closeAll h (flats vs) else none
/-- Cell by cell. -/
def closeCell (h : List HE) (c d : AV) : Prop := match d with
  | .sl t nl l => closeSl t h c = some (nl, l)
  | d => c = d
theorem close_cells {h : List HE} : ∀ (t : Ty) (cs : List AV) (x : t.den) (rest : List AV), t.close h cs = some (x, rest) → ∃ p, cs = p ++ rest ∧ p.length = (t.cells x).length ∧ ∀ (j : Nat) (c d : AV), p[j]? = some c → (t.cells x)[j]? = some d → closeCell h c d
  | .int k, cs, x, rest, hc => by
    cases cs with
    | nil => simp [Ty.close] at hc
    | cons c cs =>
      cases c <;> simp [Ty.close] at hc
      obtain ⟨rfl, rfl, rfl⟩ := hc
      refine ⟨[_], rfl, rfl, fun j c d h1 h2 => ?_⟩
      cases j <;> simp [Ty.cells] at h1 h2
      subst h1; subst h2; rfl
  | .bool, cs, x, rest, hc => by
    cases cs with
    | nil => simp [Ty.close] at hc
    | cons c cs =>
      cases c <;> simp [Ty.close] at hc
      obtain ⟨rfl, rfl⟩ := hc
      refine ⟨[_], rfl, rfl, fun j c d h1 h2 => ?_⟩
      cases j <;> simp [Ty.cells] at h1 h2
      subst h1; subst h2; rfl
  | .str, cs, x, rest, hc => by
    cases cs with
    | nil => simp [Ty.close] at hc
    | cons c cs =>
      cases c <;> simp [Ty.close] at hc
      obtain ⟨rfl, rfl⟩ := hc
      refine ⟨[_], rfl, rfl, fun j c d h1 h2 => ?_⟩
      cases j <;> simp [Ty.cells] at h1 h2
      subst h1; subst h2; rfl
  | .sl t, cs, x, rest, hc => by
    cases cs with
    | nil => simp [Ty.close] at hc
    | cons c cs =>
      simp only [Ty.close] at hc
      split at hc
      · rename_i y hy
        simp only [Option.some.injEq, Prod.mk.injEq] at hc
        obtain ⟨rfl, rfl⟩ := hc
        refine ⟨[c], rfl, rfl, fun j c' d h1 h2 => ?_⟩
        cases j <;> simp [Ty.cells] at h1 h2
        subst h1; subst h2
        exact hy
      · simp at hc
  | .pair a b, cs, x, rest, hc => by
    simp only [Ty.close] at hc
    split at hc
    · rename_i x1 r1 h1
      split at hc
      · rename_i y r2 h2
        simp only [Option.some.injEq, Prod.mk.injEq] at hc
        obtain ⟨rfl, rfl⟩ := hc
        obtain ⟨p, hp, hpl, hpo⟩ := close_cells a cs x1 r1 h1
        obtain ⟨q, hq, hql, hqo⟩ := close_cells b r1 y r2 h2
        refine ⟨p ++ q, by rw [hp, hq, List.append_assoc], by simp only [Ty.cells, List.length_append, hpl, hql], fun j c d h1 h2 => ?_⟩
        simp only [Ty.cells] at h2
        by_cases hj : j < p.length
        · rw [List.getElem?_append_left hj] at h1
          rw [List.getElem?_append_left (by rw [← hpl]; exact hj)] at h2
          exact hpo j c d h1 h2
        · rw [List.getElem?_append_right (by omega)] at h1
          rw [List.getElem?_append_right (by rw [← hpl]; omega), ← hpl] at h2
          exact hqo _ c d h1 h2
      · simp at hc
    · simp at hc
theorem closeAll_cells {h : List HE} {t : Ty} {cs : List AV} {x : t.den} (hc : t.closeAll h cs = some x) : cs.length = (t.cells x).length ∧ ∀ (j : Nat) (c d : AV), cs[j]? = some c → (t.cells x)[j]? = some d → closeCell h c d := by
  unfold Ty.closeAll at hc
  split at hc
  · rename_i y hy
    simp only [Option.some.injEq] at hc
    subst hc
    obtain ⟨p, hp, hl, ho⟩ := close_cells t cs y [] hy
    rw [List.append_nil] at hp
    subst hp
    exact ⟨hl, ho⟩
  · simp at hc
theorem idsOf_at {cs : List AV} {j i g : Nat} (h : cs[j]? = some (.own i g)) : i ∈ idsOf cs := idsOf_mem (List.mem_of_getElem? h)
theorem nodupN_right : ∀ (a : List Nat) {b : List Nat}, nodupN (a ++ b) = true → nodupN b = true
  | [], _, h => h
  | x :: a, b, h => nodupN_right a (by simp only [List.cons_append, nodupN, Bool.and_eq_true] at h; exact h.2)
theorem nodup_at : ∀ {cs : List AV}, nodupN (idsOf cs) = true → ∀ {j k i g g' : Nat}, cs[j]? = some (.own i g) → cs[k]? = some (.own i g') → j = k
  | [], _, j, k, i, g, g', h1, _ => by simp at h1
  | c :: cs, hn, j, k, i, g, g', h1, h2 => by
    have tail : nodupN (idsOf cs) = true := nodupN_right c.idOf hn
    have head : ∀ i g, c = .own i g → i ∉ idsOf cs := fun i g e hm => by
      subst e
      simp only [idsOf, AV.idOf, List.singleton_append, nodupN, Bool.and_eq_true, Bool.not_eq_true'] at hn
      rw [memN_true.2 hm] at hn; simp at hn
    cases j with
    | zero =>
      cases k with
      | zero => rfl
      | succ k =>
        simp at h1 h2
        exact absurd (idsOf_at h2) (head i g h1)
    | succ j =>
      cases k with
      | zero =>
        simp at h1 h2
        exact absurd (idsOf_at h1) (head i g' h2)
      | succ k =>
        simp at h1 h2
        have := nodup_at tail h1 h2
        omega
theorem frAll_at {h : List HE} : ∀ {fr : List (Option TypeId)} {cs : List AV}, frAll h fr cs = true → ∀ {j : Nat} {e : TypeId} {c : AV}, fr[j]? = some (some e) → cs[j]? = some c → frOne h e c = true
  | [], _, _, j, e, c, h1, _ => by simp at h1
  | some e' :: r, [], hf, j, e, c, _, h2 => by simp at h2
  | none :: r, [], hf, j, e, c, _, h2 => by simp at h2
  | some e' :: r, x :: cs, hf, j, e, c, h1, h2 => by
    simp only [frAll, Bool.and_eq_true] at hf
    cases j with
    | zero => simp at h1 h2; subst h1; subst h2; exact hf.1
    | succ j => exact frAll_at hf.2 (by simpa using h1) (by simpa using h2)
  | none :: r, x :: cs, hf, j, e, c, h1, h2 => by
    simp only [frAll] at hf
    cases j with
    | zero => simp at h1
    | succ j => exact frAll_at hf (by simpa using h1) (by simpa using h2)
/-- What is handed back. -/
theorem end_sound {O : Nat → Prop} {w w' : World} {ρ' : Rho} {h' : List HE} (hO : ∀ b, O b → b < w.heap.size) (k2 : HeapR O w' ρ' w.heap.size h') {fr : List (Option TypeId)} {cs : List AV} {vs : List Value} (hv : VRs O w' ρ' h' cs vs) {t : Ty} {y : t.den}
    (hcl : t.closeAll h' cs = some y) (hfr : frOK h' fr cs = true) : ResR O w w' fr (t.cells y) vs := by
  obtain ⟨hlen, hcell⟩ := closeAll_cells hcl
  have hfr' : fr = [] ∨ (frAll h' fr cs = true ∧ nodupN (idsOf cs) = true) := by
    unfold frOK at hfr
    split at hfr
    · exact .inl rfl
    · exact .inr (by simpa using hfr)
  -- the cell of a block that is handed over
  have blk : ∀ (j : Nat) (e : TypeId) (v : Value) (k : Nat), fr[j]? = some (some e) → vs[j]? = some v → vblock v = some k → ∃ i g, cs[j]? = some (.own i g) ∧ ρ'[i]? = some (.s v) := fun j e v k h1 h2 h3 => by
    rcases hfr' with rfl | ⟨hfa, hnd⟩
    · simp at h1
    have hj : j < cs.length := by rw [hv.1]; exact (List.getElem?_eq_some_iff.1 h2).1
    have hc : cs[j]? = some cs[j] := List.getElem?_eq_getElem hj
    have h0 := hv.2 j _ v hc h2
    have h4 := frAll_at hfa h1 hc
    generalize cs[j] = c at hc h0 h4
    cases c with
    | nils => rw [inv_nils h0] at h3; simp [vblock] at h3
    | slz nl => cases h0 with | slz hz => obtain ⟨a, rfl, _⟩ := hz; simp [vblock] at h3
    | own i g =>
      refine ⟨i, g, hc, ?_⟩
      simp only [frOne] at h4
      split at h4
      · rename_i hi
        simp only [Bool.and_eq_true] at h4
        obtain rfl := Nat.eq_of_beq_eq_true h4.2
        cases h0 with
        | own _ _ ha _ => exact ha _ _ _ _ hi
      · simp at h4
    | _ => simp [frOne] at h4
  have frb : ∀ k, FrB fr vs k → owned O ρ' k := fun k ⟨j, e, v, h1, h2, h3⟩ => by
    obtain ⟨i, g, _, hr⟩ := blk j e v k h1 h2 h3
    exact owned_of hr h3
  have own' : ∀ b, (O b ∨ FrB fr vs b) → owned O ρ' b := fun b h => by
    rcases h with h | h
    · exact .inl h
    · exact frb b h
  have kinds : ∀ (t : Ty) (x : t.den) (j : Nat) (d : AV), (t.cells x)[j]? = some d → (∃ k n, d = .int k n) ∨ (∃ b, d = .bool b) ∨ (∃ s, d = .str s) ∨ ∃ t nl l, d = .sl t nl l := fun t => by
    induction t with
    | int k => intro x j c hc; cases j <;> simp [Ty.cells] at hc; exact .inl ⟨_, _, hc.symm⟩
    | bool => intro x j c hc; cases j <;> simp [Ty.cells] at hc; exact .inr (.inl ⟨_, hc.symm⟩)
    | str => intro x j c hc; cases j <;> simp [Ty.cells] at hc; exact .inr (.inr (.inl ⟨_, hc.symm⟩))
    | sl t _ => intro x j c hc; cases j <;> simp [Ty.cells] at hc; exact .inr (.inr (.inr ⟨_, _, _, hc.symm⟩))
    | pair a b iha ihb =>
      intro x j c hc
      simp only [Ty.cells] at hc
      by_cases hj : j < (a.cells x.1).length
      · rw [List.getElem?_append_left hj] at hc; exact iha _ j c hc
      · rw [List.getElem?_append_right (by omega)] at hc; exact ihb _ _ c hc
  refine ⟨by rw [← hlen, hv.1], fun j d v hd hvj => ?_, fun i j e e' v v' k h1 h2 h3 h4 h5 h6 => ?_⟩
  · have hj : j < cs.length := by rw [hlen]; exact (List.getElem?_eq_some_iff.1 hd).1
    have hc : cs[j]? = some cs[j] := List.getElem?_eq_getElem hj
    have h0 := hv.2 j _ v hc hvj
    have hcc := hcell j _ d hc hd
    cases hf : fr.getD j none with
    | none =>
      show VR (fun b => O b ∨ FrB fr vs b) w' [] [] d v
      rcases kinds t y j d hd with ⟨k, n, rfl⟩ | ⟨b, rfl⟩ | ⟨s, rfl⟩ | ⟨t', nl, l, rfl⟩
      · have hcc : cs[j] = .int k n := hcc
        rw [hcc] at h0; rw [inv_int h0]; exact .int _ _
      · have hcc : cs[j] = .bool b := hcc
        rw [hcc] at h0; rw [inv_bool h0]; exact .bool _
      · have hcc : cs[j] = .str s := hcc
        rw [hcc] at h0; rw [inv_str h0]; exact .str _
      · have hcc : closeSl t' h' cs[j] = some (nl, l) := hcc
        refine .sl (closeSl_sound k2 (O' := owned (fun b => O b ∨ FrB fr vs b) []) (fun b ho => ?_) hcc (fun i g he r n hr hn ho => ?_) h0)
        · rcases ho with ho | ⟨r, hr, _⟩
          · exact own' b ho
          · simp at hr
        · rcases ho with ho | ⟨r, hr, _⟩
          · rcases ho with ho | ⟨j', e', v', g1, g2, g3⟩
            · have a1 := hO n ho
              have a2 := (k2.lo i r n hr hn).1
              omega
            · obtain ⟨i', g', q1, q2⟩ := blk j' e' v' n g1 g2 g3
              have := k2.dist i i' r (.s v') n hr q2 hn g3
              subst this
              rcases hfr' with rfl | ⟨hfa, hnd⟩
              · simp at g1
              have : j = j' := nodup_at hnd (by rw [hc, he]) q1
              subst this
              rw [List.getD_eq_getElem?_getD, g1] at hf
              simp at hf
          · simp at hr
    | some e =>
      have hfe : fr[j]? = some (some e) := by
        rw [List.getD_eq_getElem?_getD] at hf
        cases hx : fr[j]? with
        | none => rw [hx] at hf; simp at hf
        | some x => rw [hx] at hf; simpa using hf
      rcases hfr' with rfl | ⟨hfa, hnd⟩
      · simp at hfe
      have h4 := frAll_at hfa hfe hc
      generalize cs[j] = c at hc h0 h4 hcc
      have no : ∀ d', d = d' → (∀ t nl l, d' ≠ .sl t nl l) → closeCell h' c d → c = d' := fun d' hd' hn hcl => by
        subst hd'
        cases d <;> first | exact hcl | exact absurd rfl (hn _ _ _)
      obtain ⟨t', nl, l, rfl⟩ : ∃ t nl l, d = .sl t nl l := by
        rcases kinds t y j d hd with ⟨k, n, e⟩ | ⟨b, e⟩ | ⟨s, e⟩ | h
        · have := no _ e (fun _ _ _ h => by cases h) hcc; rw [this] at h4; simp [frOne] at h4
        · have := no _ e (fun _ _ _ h => by cases h) hcc; rw [this] at h4; simp [frOne] at h4
        · have := no _ e (fun _ _ _ h => by cases h) hcc; rw [this] at h4; simp [frOne] at h4
        · exact h
      have hcc : closeSl t' h' c = some (nl, l) := hcc
      cases c with
      | nils =>
        simp only [closeSl, Option.some.injEq, Prod.mk.injEq] at hcc
        obtain ⟨rfl, rfl⟩ := hcc
        rw [inv_nils h0]
        exact ⟨t', true, [], [], rfl, .inl ⟨rfl, rfl, _, rfl⟩, by simp, by simp⟩
      | slz nl0 =>
        simp only [closeSl, Option.some.injEq, Prod.mk.injEq] at hcc
        obtain ⟨rfl, rfl⟩ := hcc
        cases h0 with
        | slz hz =>
          obtain ⟨a, rfl, rfl⟩ := hz
          exact ⟨t', a.isNone, [], [], rfl, .inl ⟨rfl, rfl, _, rfl⟩, by cases a <;> simp, by simp⟩
      | own i g =>
        simp only [frOne] at h4
        split at h4
        · rename_i t0 e0 nl0 g0 l0 hi
          simp only [Bool.and_eq_true] at h4
          obtain rfl := Nat.eq_of_beq_eq_true h4.1
          obtain rfl := Nat.eq_of_beq_eq_true h4.2
          simp only [closeSl, hi, Nat.beq_refl, cond_true] at hcc
          split at hcc
          · rename_i l' hl'
            obtain ⟨et, rfl⟩ := castL_some hl'
            subst et
            simp only [Option.some.injEq, Prod.mk.injEq] at hcc
            obtain ⟨rfl, rfl⟩ := hcc
            obtain ⟨r, hr, hher⟩ := k2.ent i _ hi
            cases h0 with
            | own _ _ ha _ =>
              obtain rfl := Option.some.inj (hr.symm.trans (ha _ _ _ _ hi))
              cases hher with
              | @lst _ _ _ _ _ _ xs hg ho hn hel =>
                exact ⟨_, _, _, xs, rfl, ho, hn, fun i y hy => RC_mono (fun _ _ _ => rfl) (fun b _ hb => own' b hb) _ _ _ (hel i y hy)⟩
          · simp at hcc
        · simp at h4
      | _ => simp [frOne] at h4
  · obtain ⟨i1, g1, a1, b1⟩ := blk i e v k h1 h3 h5
    obtain ⟨i2, g2, a2, b2⟩ := blk j e' v' k h2 h4 h6
    have := k2.dist i1 i2 _ _ k b1 b2 h5 h6
    subst this
    rcases hfr' with rfl | ⟨hfa, hnd⟩
    · simp at h1
    exact nodup_at hnd a1 a2
/-- The evaluator's word on a function. -/
noncomputable def evalF (T : Tab) (F : PT) (p : PF) (I : InlT p.σ.den) (d : Nat) (Q : CutK p.σ.den) (hi : Hint) (fn : Func) (x : p.τ.den) : Option p.σ.den :=
  bodyK T F (inlK T F I d) Q hi fn (unflat p.ps (p.τ.cells x)) [] (endK p)
theorem pfok (hm : P.follows .mixedOrders = true) (hT : TabOK P T) (hF : FOK P T F) {g : FuncId} {fn : Func} (hfn : P.funcs[g]? = some fn) {p : PF} {I : InlT p.σ.den} (hI : IOK P T F I) {d : Nat} {Q : CutK p.σ.den} {hi : Hint} (hcut : ∀ c, fn.body = some c → CutsOK T F (inlK T F I d) Q c hi)
    (he : ∀ x, evalF T F p I d Q hi fn x = p.f x) : PFOK P T g p := by
  intro x y hf O w vs cells hO hgl hr hs
  have hh : HeapR O w [] w.heap.size [] := ⟨rfl, fun i e he => by simp at he, fun i j r r' n hi => by simp at hi, fun i r n hi => by simp at hi, hO⟩
  have hv : VRs O w [] [] (unflat p.ps (p.τ.cells x)) vs.toList := by
    unfold RCP at hr
    split at hr
    · rename_i hp
      rw [hp] at hs ⊢
      obtain ⟨_, hs⟩ := hs
      rw [hs]
      exact .nil _ _ _
    · have hr' : RC (owned O []) w p.τ x cells := RC_mono (fun _ _ _ => rfl) (fun b _ ho => by rcases ho with h | ⟨r, hr, _⟩; exact h; simp at hr) _ _ _ hr
      rw [← shapeV_unflat _ _ _ hs]
      exact unflat_sound p.ps (RC_cells p.τ x cells hr')
  have hk := he x
  rw [hf] at hk
  refine (body_sound hm hT hF (inlK_sound hm hT hF hI d) hfn hcut hk hh (Nat.le_refl _) hgl hv).mono ?_
  rintro e w' ⟨us, avs, h', ρ', rfl, k1, k2, k3, k4, k5⟩
  unfold endK at k1
  have h2 := cond_some k1
  obtain ⟨hc, hcl⟩ := h2
  simp only [Bool.and_eq_true] at hc
  obtain ⟨⟨hc1, hc2⟩, hc3⟩ := hc
  obtain ⟨g1, g2⟩ := flats_sound p.rs hc2 hc1 k3
  exact ⟨flatsV us, by rw [shapeV_unflat _ _ _ g2], end_sound hO k2 g1 hcl hc3, k5⟩
def PC.pf (p : PC) : PF := { ps := p.ps, rs := p.rs, τ := p.τ, σ := p.σ, f := fun _ => none }
/-- The evaluator's word on a function whose last argument is a closure over one variable. -/
noncomputable def evalC (T : Tab) (F : PT) (p : PC) (g' : FuncId) (I : InlT p.σ.den) (d : Nat) (Q : CutK p.σ.den) (hi : Hint) (fn : Func) (x : p.τ.den) (z : p.κ.den) : Option p.σ.den :=
  bodyK T F (inlK T F I d) Q hi fn (unflat p.ps (p.τ.cells x) ++ [.fn (.func g') [] [.ro p.κ z 0]]) [] (endK p.pf)
theorem pcok (hm : P.follows .mixedOrders = true) (hT : TabOK P T) (hF : FOK P T F) {g g' : FuncId} {fn : Func} (hfn : P.funcs[g]? = some fn) {p : PC} {I : InlT p.σ.den} (hI : IOK P T F I) {d : Nat} {Q : CutK p.σ.den} {hi : Hint} (hcut : ∀ c, fn.body = some c → CutsOK T F (inlK T F I d) Q c hi)
    (he : ∀ x z, evalC T F p g' I d Q hi fn x z = p.f x z) : PCOK P T g g' p := by
  intro x z y hf O w vs cells c ad hO hgl hr hs hrz hno hlt hcell
  have hh : HeapR O w [] w.heap.size [] := ⟨rfl, fun i e he => by simp at he, fun i j r r' n hi => by simp at hi, fun i r n hi => by simp at hi, hO⟩
  have hown : ∀ b, owned O [] b → O b := fun b ho => by rcases ho with h | ⟨r, hr, _⟩; exact h; simp at hr
  have hv : VRs O w [] [] (unflat p.ps (p.τ.cells x) ++ [.fn (.func g') [] [.ro p.κ z 0]]) (vs.push (.func (.func g') #[] #[.pointer (some ad)])).toList := by
    rw [Array.toList_push]
    refine VRs.append ?_ (.cons (.fn rfl (by simp) rfl (fun i c' v hc' hv' => ?_)) (.nil _ _ _))
    · rw [← shapeV_unflat _ _ _ hs]
      exact unflat_sound p.ps (RC_cells p.τ x cells (RC_mono (fun _ _ _ => rfl) (fun b _ ho => hown b ho) _ _ _ hr))
    · cases i with
      | zero =>
        simp only [List.getElem?_cons_zero, Option.some.injEq] at hc'
        obtain rfl := hc'
        simp at hv'
        obtain rfl := hv'
        exact .ro (fun h => hno (hown _ h)) hlt (fun j v hv => hcell j v (by simpa using hv)) (RC_mono (fun _ _ _ => rfl) (fun b _ ho => hown b ho) _ _ _ hrz)
      | succ i => simp at hc'
  have hk := he x z
  rw [hf] at hk
  refine (body_sound hm hT hF (inlK_sound hm hT hF hI d) hfn hcut hk hh (Nat.le_refl _) hgl hv).mono ?_
  rintro e w' ⟨us, avs, h', ρ', rfl, k1, k2, k3, k4, k5⟩
  unfold endK at k1
  have h2 := cond_some k1
  obtain ⟨hc, hcl⟩ := h2
  simp only [Bool.and_eq_true] at hc
  obtain ⟨⟨hc1, hc2⟩, hc3⟩ := hc
  obtain ⟨g1, g2⟩ := flats_sound p.rs hc2 hc1 k3
  exact ⟨flatsV us, by rw [shapeV_unflat _ _ _ g2], end_sound (fr := []) hO k2 g1 hcl hc3, k5⟩
end
end Go.Proofs.YtibdnfknokkadaaDoor.Ev
