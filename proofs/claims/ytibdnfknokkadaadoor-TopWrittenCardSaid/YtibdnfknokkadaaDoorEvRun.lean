/- Bodies: what the evaluator says of a function is what a call of it does. -/
import Derived.Test.YtibdnfknokkadaaDoorEvCode
import Derived.Test.YtibdnfknokkadaaDoorEvOpM
set_option linter.unusedVariables false
set_option linter.unusedSimpArgs false
namespace Go.Proofs.YtibdnfknokkadaaDoor.Ev
open Go Go.RowKit
variable {X : Nat → Prop}

/-- Where a body began. -/
structure From where
  base : Nat
  w : World
  ρ : Rho
  h : List HE
/-- What the evaluator's state tells of the frame and the memory. -/
def StR (X : Nat → Prop) (s : From) (st : St) (a : Act) (w : World) : Prop :=
  ∃ ρ, HeapR X w ρ s.base st.heap ∧ EnvR X w ρ st.heap st.env a.tmps ∧ a.tmps.size = st.n ∧ a.defers = [] ∧ Fwd X s.w s.ρ s.h w ρ st.heap ∧ Below s.base s.w w ∧ s.base ≤ w.heap.size ∧ st.v0 = s.h.map HE.ver ∧ s.ρ.length = s.h.length

/-- A call that sorts a row in its place. -/
def SOK (P : Program) (g g' : FuncId) (s : SF) : Prop := s.f [] = [] ∧ (∀ (a : Option Addr) (w : World), Calls P g #[.slice a 0 0, .func (.func g') #[] #[]] w fun e w' => e = .returned (.tuple #[]) ∧ w' = w) ∧
  ∀ (l : List s.τ.den) (w : World) (base : Nat) (e : TypeId) (xs : List Value) (b c : Nat) (cur : Array Value) (ty : TypeId) (fz : Nat × Nat) (O : Nat → Prop), RowAt w base e s.τ.size l.length xs b c cur ty fz → (∀ (i : Nat) (y : s.τ.den), l[i]? = some y → RC O w s.τ y ((xs.drop (i * s.τ.size)).take s.τ.size)) → l.length ≤ 1099511627776 →
    Calls P g #[.slice (some ⟨b, 0, none⟩) l.length (c + 1), .func (.func g') #[] #[]] w fun e' w' => e' = .returned (.tuple #[]) ∧ (s.f l).length = l.length ∧ ∃ cur' : Array Value, w'.heap[b]? = some (.cells cur' ty fz) ∧ cur'.size = cur.size ∧
      (∀ (i : Nat) (y : s.τ.den) (O' : Nat → Prop) (w2 : World), (s.f l)[i]? = some y → RC O' w2 s.τ y (((cur'.toList.take (l.length * s.τ.size)).drop (i * s.τ.size)).take s.τ.size)) ∧
      (∀ k, k < w.heap.size → k ≠ b → w'.heap[k]? = w.heap[k]?) ∧ w.heap.size ≤ w'.heap.size ∧ w'.os = w.os ∧ w'.tape = w.tape ∧ w'.output = w.output ∧ w.drawn ≤ w'.drawn
structure FOK (P : Program) (T : Tab) (F : PT) : Prop where
  f : ∀ g p, F g = some p → PFOK P T g p ∧ Ent P g
  c : ∀ g g' p, F.c g g' = some p → PCOK P T g g' p ∧ Ent P g
  s : ∀ g g' s, F.srt g g' = some s → SOK P g g' s ∧ Ent P g
/-- The program's variables, as they were where the body began. -/
def GOK (X : Nat → Prop) (s : From) (T : Tab) : Prop := GlR X s.w s.ρ s.h T
def COK {R : Type} (X : Nat → Prop) (base : Nat) (P : Program) (T : Tab) (C : CallK R) : Prop := ∀ g args h K r, C g args h K = some r → Ent P g ∧ ∀ w ρ (vs : Array Value), HeapR X w ρ base h → base ≤ w.heap.size → GlR X w ρ h T → VRs X w ρ h args vs.toList →
  Calls P g vs w fun e w' => ∃ v av h', e = .returned v ∧ K av h' = some r ∧ Done X base w ρ h v w' av h'

section
variable {R : Type} {P : Program} {T : Tab} {F : PT} {C : CallK R} {fuel : Nat} {s : From}
theorem glv_sound {w : World} {ρ : Rho} {h : List HE} (hg : GlR X w ρ h T) (g : Nat) : VR X w ρ h (glv T g) (.pointer (some ⟨g, 0, none⟩)) := by
  unfold glv
  split
  · rename_i x hx; exact hg g x hx
  · exact .junk _
theorem opv_sound {w : World} {ρ : Rho} {h : List HE} {env : List (Nat × AV)} {a : Act} (hg : GlR X w ρ h T) (he : EnvR X w ρ h env a.tmps) (x : Operand) : VR X w ρ h (opv T env x) (a.eval x) := by
  cases x with
  | tmp t => exact he t
  | const v => exact ofVal_sound v
  | global g => exact glv_sound hg g
  | func f => exact .fn rfl (by simp) rfl (by simp)
/-- The arguments of a call of a value. -/
theorem call_args {w : World} {ρ : Rho} {h : List HE} {A : Operand → AV} {B : Operand → Value} (hAB : ∀ x, VR X w ρ h (A x) (B x)) {f : Operand} {g : FuncId} {first capt : List AV} (hf : A f = .fn (.func g) first capt) (args : Array Operand) :
    ∃ f' c' : Array Value, B f = .func (.func g) f' c' ∧ VRs X w ρ h (first ++ args.toList.map A ++ capt) ((f' ++ args.map B) ++ c').toList := by
  have hx := hAB f
  rw [hf] at hx
  generalize B f = bf at hx
  cases hx with
  | @fn _ _ _ a' b' hl hh hl' hh' =>
    refine ⟨a', b', rfl, ?_⟩
    rw [Array.toList_append, Array.toList_append, Array.toList_map]
    exact (VRs.append (VRs.append (c1 := first) (v1 := a'.toList) ⟨by simpa using hl, fun i c v hc hv => hh i c v hc (by simpa using hv)⟩ (VRs_map hAB args.toList)) ⟨by simpa using hl', fun i c v hc hv => hh' i c v hc (by simpa using hv)⟩)
theorem run_call {w : World} {B : Operand → Value} {o : Oper} {c : Call} {f : Operand} (ho : o.op = .call c) (hc : c.callee = .value f) {g : FuncId} {f' c' : Array Value} (hf : B f = .func (.func g) f' c') (hg : Ent P g) :
    (execOp B o).run P w = .ok (.enter g ((f' ++ c.args.map B) ++ c')) w := by
  have : (execOp B o) = (do let d ← resolve B c o.type; invoke d.target d.args) := by simp only [execOp, ho]
  rw [this]
  simp only [resolve, hc, hf, Deferred.ofValue, Sem.run_bind, Sem.run_pure, Result.andThen_ok, invoke]
  exact hg _ w
theorem upon_ops {w : World} {ρ : Rho} {h : List HE} {base : Nat} {o : Oper} {a : Act} {next : Act → World → Prop} {Q : Exit → Act → World → Prop} {K : OK R} {r : R} (hs : OpS X base w ρ h ((execOp a.eval o).run P w) K r)
    (hn : ∀ v av u w', K av u = some r → Done X base w ρ h v w' av (applyU u h) → next (a.put o.dst v) w') : o.wp P a w next Q := by
  obtain ⟨av, u, v, w', hk, hr, hd⟩ := hs
  unfold Oper.wp
  rcases hr with hr | ⟨hr, hv⟩
  · rw [hr]; exact hn v av u w' hk hd
  · rw [hr]; rw [hv] at hd; exact hn undef av u w' hk hd
theorem sort_sound {g : FuncId} (hF : ∀ g' s, F.srt g g' = some s → SOK P g g' s) {base : Nat} {h : List HE} {w : World} {ρ : Rho} (hh : HeapR X w ρ base h) (hb : base ≤ w.heap.size) {args : List AV} {vs : Array Value} {K : OK R} {r : R} (hv : VRs X w ρ h args vs.toList) (hk : sortK F g args h K = some r) :
    Calls P g vs w fun e w' => ∃ v av u, e = .returned v ∧ K av u = some r ∧ Done X base w ρ h v w' av (applyU u h) := by
  unfold sortK at hk
  split at hk
  · rename_i x g'
    obtain ⟨v0, rest, e1, hx, hrest⟩ := hv.uncons
    obtain ⟨v1, rest', rfl, hfn, hrest'⟩ := hrest.uncons
    have : rest' = [] := List.eq_nil_of_length_eq_zero (by simpa using hrest'.1.symm)
    subst this
    obtain rfl : vs = #[v0, v1] := by apply Array.ext'; simpa using e1
    obtain rfl : v1 = .func (.func g') #[] #[] := by
      cases hfn with
      | @fn _ _ _ a' b' hl _ hl' _ =>
        have h1 : a' = #[] := Array.eq_empty_of_size_eq_zero hl.symm
        have h2 : b' = #[] := Array.eq_empty_of_size_eq_zero hl'.symm
        rw [h1, h2]
    split at hk
    · rename_i s hs
      obtain ⟨s0, s1, s2⟩ := hF g' s hs
      split at hk
      · rw [inv_nils hx]
        refine (s1 none w).mono ?_
        rintro e w' ⟨rfl, rfl⟩
        exact ⟨_, _, _, rfl, hk, ⟨ρ, hh, .tup rfl (by simp), .refl _ _ _, Below.refl _ _⟩⟩
      · rename_i i v
        split at hk
        · rename_i t e nl v' l hi
          have h2 := cond_some hk
          clear hk
          obtain ⟨hc, hk⟩ := h2
          obtain rfl := Nat.eq_of_beq_eq_true hc
          split at hk
          · rename_i l' hl'
            obtain ⟨et, rfl⟩ := castL_some hl'
            subst et
            obtain ⟨hlen0, hk⟩ := cond_some hk
            have hlen0 := of_decide_eq_true hlen0
            obtain ⟨rl, hrl, hher⟩ := hh.ent _ _ hi
            cases hx with
            | own hx1 hg1 ha hsl =>
              have ha := ha _ _ _ _ hi
              obtain rfl := Option.some.inj (hrl.symm.trans ha)
              cases hher with
              | @lst _ _ _ _ _ _ xs hg how hn hel =>
                rcases how with ⟨h0, hxs, a, rfl⟩ | ⟨b, c, cur, ty, fz, rfl, row⟩
                · have hl0 : l = [] := List.eq_nil_of_length_eq_zero h0
                  subst hl0
                  refine (s1 a w).mono ?_
                  rintro e' w' ⟨rfl, rfl⟩
                  refine ⟨_, _, _, rfl, hk, ⟨ρ, ?_, .tup rfl (by simp), ?_, Below.refl _ _⟩⟩
                  · show HeapR X w' ρ base (h.set i (.lst s.τ e nl v (s.f [])))
                    rw [s0, set_same hi]; exact hh
                  · show Fwd X w' ρ h w' ρ (h.set i (.lst s.τ e nl v (s.f [])))
                    rw [s0, set_same hi]; exact .refl _ _ _
                · refine (s2 l w base e xs b c cur ty fz _ row hel hlen0).mono ?_
                  rintro e' w' ⟨rfl, hlen, cur', k1, k2, k3, k4, k5, k6, k7, k8, k9⟩
                  have hbs : b < w.heap.size := row.lt
                  obtain ⟨g1, g2, g3, g4⟩ := set_entry hh hi ha (e := .lst s.τ e nl v (s.f l)) (rl := .s (.slice (some ⟨b, 0, none⟩) l.length (c + 1))) (w' := w') hb k5
                    (fun q hq hne => k4 q hq (fun e => hne (by rw [e]; rfl))) (fun n hn => ⟨.inl hn, Nat.lt_of_lt_of_le (hh.lo _ _ n ha hn).2 k5⟩) (Nat.le_refl _)
                    (fun t' ty' nl' g' l' he => by simp only [HE.lst.injEq] at he; obtain ⟨rfl, rfl, rfl, rfl, he⟩ := he; exact .inr ⟨⟨_, _, _, _, rfl⟩, rfl⟩)
                    (fun _ he => by cases he) (fun f => by
                      refine .lst hg (xs := cur'.toList.take (l.length * s.τ.size)) ?_ ?_ (fun j y hy => k3 j y _ _ hy)
                      · rw [hlen]
                        exact .inr ⟨b, c, cur', ty, fz, rfl, row.lo, k1, row.kind, row.num, row.cap, by rw [k2]; exact row.len, rfl⟩
                      · have hq : (nl && l.isEmpty) = false := by
                          cases hqq : (nl && l.isEmpty) with
                          | false => rfl
                          | true => have := hn.2 hqq; simp at this
                        have he : (s.f l).isEmpty = l.isEmpty := by
                          cases h1 : s.f l with
                          | nil => rw [h1] at hlen; cases l with | nil => rfl | cons => simp at hlen
                          | cons => rw [h1] at hlen; cases l with | nil => simp at hlen | cons => rfl
                        rw [he, hq]; simp)
                  refine ⟨_, _, _, rfl, hk, ⟨_, g1, .tup rfl (by simp), g2, of_Below k6 k7 k8 k5 (fun q hq => k4 q (by omega) (fun e => by have := row.lo; omega)) k9⟩⟩
          · simp at hk
        · simp at hk
      · simp at hk
    · simp at hk
  · simp at hk
theorem locK_sound (hT : TabOK P T) (hF : FOK P T F) {base : Nat} {o : Oper} {A : Operand → AV} {h : List HE} {nid : Nat} {K : OK R} {r : R} {a : Act} {w : World} {ρ : Rho} (hh : HeapR X w ρ base h) (hb : base ≤ w.heap.size)
    (hg : GlR X w ρ h T) (hAB : ∀ x, VR X w ρ h (A x) (a.eval x)) (hk : locK T F o.op A h nid K = some r) {next : Act → World → Prop} {Q : Exit → Act → World → Prop}
    (hn : ∀ v av u w', K av u = some r → Done X base w ρ h v w' av (applyU u h) → next (a.put o.dst v) w') : o.wp P a w next Q := by
  have plain : ∀ {res : Result Next}, res = (execOp a.eval o).run P w → OpS X base w ρ h res K r → o.wp P a w next Q := fun {res} hres hs => by
    rw [hres] at hs
    exact upon_ops hs hn
  have bi : ∀ {c : Call} {b : Builtin}, o.op = .call c → c.callee = .builtin b → (builtin b c.argTypes o.type (c.args.map fun | .const _ => true | _ => false) (c.args.map a.eval)).run P w = (execOp a.eval o).run P w := fun {c b} hop hcal => by
    have : (execOp a.eval o) = (do let d ← resolve a.eval c o.type; invoke d.target d.args) := by simp only [execOp, hop]
    rw [this]
    simp only [resolve, hcal, Sem.run_bind, Sem.run_pure, Result.andThen_ok, invoke]
    rfl
  unfold locK at hk
  cases hext : isExt F o.op A with
  | true =>
    rw [hext] at hk
    simp only [cond_true] at hk
    unfold extK at hk
    split at hk
    · rename_i s d x hop
      have e : execOp a.eval o = (do pure (Next.value (← convert s d (a.eval x))) : Sem Next) := by simp only [execOp, hop]
      exact plain rfl (by rw [e]; exact bytes_ops hT hh hb (hAB x) hk)
    · rename_i t x lo hi mx hop
      have e : execOp a.eval o = (do pure (Next.value (← Instr.sliceAt t (a.eval x) (lo.map a.eval) (hi.map a.eval) (mx.map a.eval))) : Sem Next) := by simp only [execOp, hop]
      exact plain rfl (by rw [e]; exact viewK_ops hT hh hb hAB hk)
    · rename_i c hop
      split at hk
      · rename_i b hcal
        exact plain (bi hop hcal) (extB_ops hT hh hb (by rw [Array.toList_map]; exact VRs_map hAB _) hk)
      · simp at hk
    · exact plain rfl (mapL_ops hT hh hb hAB hk)
  | false =>
  rw [hext] at hk
  simp only [cond_false] at hk
  unfold locK0 at hk
  split at hk
  · rename_i c hop
    split at hk
    · rename_i b hcal
      refine plain (res := (builtin b c.argTypes o.type (c.args.map fun | .const _ => true | _ => false) (c.args.map a.eval)).run P w) ?_ (builtin_ops hT hh hb (by rw [Array.toList_map]; exact VRs_map hAB _) hk)
      have : (execOp a.eval o) = (do let d ← resolve a.eval c o.type; invoke d.target d.args) := by simp only [execOp, hop]
      rw [this]
      simp only [resolve, hcal, Sem.run_bind, Sem.run_pure, Result.andThen_ok, invoke]
      rfl
    · rename_i f hcal
      split at hk
      · rename_i g hf
        split at hk
        · rename_i p hp
          obtain ⟨hpf, hEnt⟩ := hF.f g p hp
          obtain ⟨f', c', hB, hvs⟩ := call_args hAB hf c.args
          unfold Oper.wp
          rw [run_call hop hcal hB hEnt]
          have hfr : frOf f p g = p.fr ∨ frOf f p g = [] := by
            cases f with
            | func g' =>
              simp only [frOf]
              cases Nat.beq g' g with
              | true => exact .inl rfl
              | false => exact .inr rfl
            | _ => exact .inr rfl
          refine (pure_sound hpf hfr hh hb hg (by simpa using hvs) hk).mono ?_
          rintro e w' ⟨v, av, u, rfl, hk', hd⟩
          exact hn v av u w' hk' hd
        · obtain ⟨f', c', hB, hvs⟩ := call_args hAB hf c.args
          cases hso : sorts F g (c.args.toList.map A) with
          | true =>
            rw [hso, cond_true] at hk
            have hEnt : Ent P g := by
              unfold sorts at hso
              split at hso
              · rename_i g' _
                cases hq : F.srt g g' with
                | none => rw [hq] at hso; cases hso
                | some s => exact (hF.s _ _ _ hq).2
              · cases hso
            unfold Oper.wp
            rw [run_call hop hcal hB hEnt]
            refine (sort_sound (fun g' s hs => (hF.s g g' s hs).1) hh hb (by simpa using hvs) hk).mono ?_
            rintro e w' ⟨v, av, u, rfl, hk', hd⟩
            exact hn v av u w' hk' hd
          | false =>
          rw [hso, cond_false] at hk
          have hEnt : Ent P g := by
            unfold closK at hk
            split at hk
            · split at hk
              · rename_i p cs hp _
                exact (hF.c _ _ _ hp).2
              · simp at hk
            · simp at hk
          unfold Oper.wp
          rw [run_call hop hcal hB hEnt]
          refine (clos_sound (fun g' p hp => (hF.c g g' p hp).1) hh hb hg (by simpa using hvs) hk).mono ?_
          rintro e w' ⟨v, av, u, rfl, hk', hd⟩
          exact hn v av u w' hk' hd
      · simp at hk
    · simp at hk
  · exact plain rfl (opK_sound hT hh hb hAB hk)
theorem cond_none {α : Type} {b : Bool} {x y : α} (h : (bif b then none else some x) = some y) : x = y := by
  cases b with
  | true => simp at h
  | false => exact Option.some.inj h
/-- A function that is entered. -/
theorem call_sound {base : Nat} (hC : COK X base P T C) {o : Oper} {A : Operand → AV} {h : List HE} {Kc : AV → List HE → Option R} {r : R} {a : Act} {w : World} {ρ : Rho} (hh : HeapR X w ρ base h) (hb : base ≤ w.heap.size)
    (hg : GlR X w ρ h T) (hAB : ∀ x, VR X w ρ h (A x) (a.eval x)) {g : FuncId} {args : List AV} (hent : entersK F A o.op = some (g, args)) (hk : C g args h Kc = some r) {next : Act → World → Prop} {Q : Exit → Act → World → Prop}
    (hn : ∀ v av h' w', Kc av h' = some r → Done X base w ρ h v w' av h' → next (a.put o.dst v) w') : o.wp P a w next Q := by
  unfold entersK at hent
  split at hent
  · rename_i c hop
    split at hent
    · rename_i f hcal
      split at hent
      · rename_i g' first capt hf
        split at hent
        · simp at hent
        · have hent := cond_none hent
          simp only [Prod.mk.injEq] at hent
          obtain ⟨rfl, rfl⟩ := hent
          obtain ⟨hEnt, hcalls⟩ := hC _ _ _ _ _ hk
          obtain ⟨f', c', hB, hvs⟩ := call_args hAB hf c.args
          unfold Oper.wp
          rw [run_call hop hcal hB hEnt]
          refine (hcalls w ρ _ hh hb hg hvs).mono ?_
          rintro e w' ⟨v, av, h', rfl, hk', hd⟩
          exact hn v av h' w' hk' hd
      · simp at hent
    · simp at hent
  · simp at hent
theorem oneOp_sound (hT : TabOK P T) (hF : FOK P T F) (hG : GOK X s T) (hC : COK X s.base P T C) {o : Oper} {st : St} {nid : Nat} {K : AV → List HE → Option R} {r : R} {a : Act} {w : World} {ρ : Rho} (hh : HeapR X w ρ s.base st.heap) (hb : s.base ≤ w.heap.size)
    (hf : Fwd X s.w s.ρ s.h w ρ st.heap) (he : EnvR X w ρ st.heap st.env a.tmps) (hk : oneOp T F C o.op st nid K = some r) {next : Act → World → Prop} {Q : Exit → Act → World → Prop}
    (hn : ∀ v av h' w', K av h' = some r → Done X s.base w ρ st.heap v w' av h' → next (a.put o.dst v) w') : o.wp P a w next Q := by
  have hg := hG.fwd hf
  have hAB := opv_sound hg he
  unfold oneOp at hk
  split at hk
  · -- a function that is entered
    rename_i g args hent
    unfold entersK at hent
    split at hent
    · rename_i c hop
      split at hent
      · rename_i f hcal
        split at hent
        · rename_i g' first capt hf
          split at hent
          · simp at hent
          · have hent := cond_none hent
            simp only [Prod.mk.injEq] at hent
            obtain ⟨rfl, rfl⟩ := hent
            obtain ⟨hEnt, hcalls⟩ := hC _ _ _ _ _ hk
            obtain ⟨f', c', hB, hvs⟩ := call_args hAB hf c.args
            unfold Oper.wp
            rw [run_call hop hcal hB hEnt]
            refine (hcalls w ρ _ hh hb hg hvs).mono ?_
            rintro e w' ⟨v, av, h', rfl, hk', hd⟩
            exact hn v av h' w' hk' hd
        · simp at hent
      · simp at hent
    · simp at hent
  · cases hm : isIter o.op with
    | true =>
      rw [hm, cond_true] at hk
      exact upon_ops (iterK_ops hT hh hb hAB hk) (fun v av u w' hk' hd => hn v av _ w' hk' hd)
    | false =>
      rw [hm, cond_false] at hk
      exact locK_sound hT hF hh hb hg hAB hk (fun v av u w' hk' hd => hn v av _ w' hk' hd)

theorem StR.of_done {st : St} {a : Act} {w w' : World} {ρ : Rho} {v : Value} {av : AV} {h' : List HE} {dst : Option Tmp} (he : EnvR X w ρ st.heap st.env a.tmps) (hs : a.tmps.size = st.n) (hd : a.defers = []) (f : Fwd X s.w s.ρ s.h w ρ st.heap) (hbel : Below s.base s.w w) (hb : s.base ≤ w.heap.size)
    (hv0 : st.v0 = s.h.map HE.ver) (hl : s.ρ.length = s.h.length) (hok : dstOK st dst = true) (hdone : Done X s.base w ρ st.heap v w' av h') : StR X s (st.put dst av h') (a.put dst v) w' := by
  obtain ⟨ρ', h1, h2, h3, h4⟩ := hdone.out
  cases dst with
  | none => exact ⟨ρ', h1, EnvR_fwd h3 he, hs, hd, f.trans h3, hbel.trans h4, Nat.le_trans hb h3.size, hv0, hl⟩
  | some d =>
    have hlt : d < st.n := Nat.le_of_ble_eq_true (show Nat.ble (d + 1) st.n = true from hok)
    exact ⟨ρ', h1, EnvR_put (EnvR_fwd h3 he) (by rw [hs]; exact hlt) h2, by simp [Act.put, hs]; rfl, hd, f.trans h3, hbel.trans h4, Nat.le_trans hb h3.size, hv0, hl⟩
theorem StR.know {st : St} {a : Act} {w : World} {d : Nat} {b : Bool} (h : StR X s st a w) (hl : look st.env d = .bool b) : StR X s (st.know d b) a w := by
  obtain ⟨ρ, h1, h2, h3⟩ := h
  refine ⟨ρ, h1, EnvR_know h2 ?_, h3⟩
  have := h2 d
  rw [hl] at this
  exact this
theorem StR.bool {st : St} {a : Act} {w : World} {d : Nat} {b : Bool} (h : StR X s st a w) (hl : look st.env d = .bool b) : a.tmps[d]? = some (.bool b) := by
  obtain ⟨ρ, h1, h2, h3⟩ := h
  have := h2 d
  rw [hl] at this
  have e := inv_bool this
  rw [Array.getD_eq_getD_getElem?] at e
  cases hx : a.tmps[d]? with
  | none => rw [hx] at e; simp [undef] at e
  | some v => rw [hx] at e; simpa using e
theorem yielded_undef {ops : Array Oper} {tmps : Array Value} {j d : Nat} (hjd : (ops[j]?).bind (·.dst) = some d) (h : tmps.getD d undef = undef) : yielded ops tmps j = none := by
  simp only [yielded, hjd, Option.bind_some]
  rw [Array.getD_eq_getD_getElem?] at h
  cases hx : tmps[d]? with
  | none => rfl
  | some v => rw [hx] at h; simp only [Option.getD_some] at h; rw [h]; rfl
theorem isUndef_eq {v : Value} (h : isUndef v = true) : v = undef := by
  cases v <;> simp [isUndef] at h
  subst h; rfl
theorem StR.isU {st : St} {a : Act} {w : World} {d : Nat} {v : Value} (h : StR X s st a w) (hl : look st.env d = .lit v) (hu : isUndef v = true) : a.tmps.getD d undef = Go.undef := by
  obtain ⟨ρ, h1, h2, h3⟩ := h
  have := h2 d
  rw [hl, isUndef_eq hu] at this
  exact inv_lit this
theorem StR.skip {st : St} {a : Act} {w : World} {dst : Option Tmp} (h : StR X s st a w) (hok : dstOK st dst = true) : StR X s (st.put dst skv st.heap) (a.put dst undef) w := by
  obtain ⟨ρ, h1, h2, h3, h4, h5, h6, h7, h8, h9⟩ := h
  exact StR.of_done (h' := st.heap) h2 h3 h4 h5 h6 h7 h8 h9 hok ⟨ρ, h1, .lit _, .refl _ _ _, Below.refl _ _⟩

theorem opsK_sound (hT : TabOK P T) (hF : FOK P T F) (hG : GOK X s T) (hC : COK X s.base P T C) {ops : Array Oper} {Q : Exit → Act → World → Prop} {K : St → Option R} {r : R}
    (hq : ∀ st a w, K st = some r → StR X s st a w → Q .normal a w) : ∀ (rest : List Oper) (i nid : Nat) (st : St) (a : Act) (w : World), ops.toList.drop i = rest → opsK T F C ops.toList rest nid st K = some r → StR X s st a w →
      wpOps P ops Q (List.range' i rest.length) a w
  | [], i, nid, st, a, w, _, hk, hst => hq st a w hk hst
  | o :: rest, i, nid, st, a, w, hr, hk, hst => by
    have hoi : ops[i]? = some o := by
      have : (ops.toList.drop i)[0]? = some o := by rw [hr]; rfl
      rw [List.getElem?_drop] at this
      simpa using this
    have hrest : ops.toList.drop (i + 1) = rest := by rw [← List.drop_drop, hr]; rfl
    rw [List.length_cons, List.range'_succ]
    simp only [wpOps, hoi]
    simp only [opsK] at hk
    have h2 := cond_some hk
    clear hk
    obtain ⟨hok, hk⟩ := h2
    have run : ∀ (st : St), StR X s st a w → dstOK st o.dst = true → Region.wanted o (yielded ops a.tmps) = true → (oneOp T F C o.op st nid fun v h => opsK T F C ops.toList rest (nid + makesN F o.op) (st.put o.dst v h) K) = some r →
        (if Region.wanted o (yielded ops a.tmps) = true then o.wp P a w (wpOps P ops Q (List.range' (i + 1) rest.length)) Q ∨ (o.asks P a w ∧ LetsOut Q) else wpOps P ops Q (List.range' (i + 1) rest.length) (a.put o.dst undef) w) := fun st hst hok hw hk => by
      rw [if_pos hw]
      obtain ⟨ρ, h1, h2, h3, h4, h5, h6, h7, h8, h9⟩ := hst
      exact .inl (oneOp_sound hT hF hG hC h1 h7 h5 h2 hk (fun v av h' w' hk' hd => opsK_sound hT hF hG hC hq rest (i + 1) _ _ _ w' hrest hk' (StR.of_done h2 h3 h4 h5 h6 h7 h8 h9 hok hd)))
    have skip : ∀ (st : St), StR X s st a w → dstOK st o.dst = true → Region.wanted o (yielded ops a.tmps) = false → (opsK T F C ops.toList rest (nid + makesN F o.op) (st.put o.dst skv st.heap) K) = some r →
        (if Region.wanted o (yielded ops a.tmps) = true then o.wp P a w (wpOps P ops Q (List.range' (i + 1) rest.length)) Q ∨ (o.asks P a w ∧ LetsOut Q) else wpOps P ops Q (List.range' (i + 1) rest.length) (a.put o.dst undef) w) := fun st hst hok hw hk => by
      rw [if_neg (by rw [hw]; exact Bool.false_ne_true)]
      exact opsK_sound hT hF hG hC hq rest (i + 1) _ _ _ w hrest hk (StR.skip hst hok)
    split at hk
    · rename_i hg
      exact run st hst hok (by simp [Region.wanted, hg]) hk
    · rename_i j want hg
      split at hk
      · rename_i d hd
        split at hk
        · rename_i b hl
          have hy : yielded ops a.tmps j = some b := by
            have hjd : (ops[j]?).bind (·.dst) = some d := by
              unfold guardSlot at hd
              rw [Array.getElem?_toList] at hd
              cases hj : ops[j]? with
              | none => rw [hj] at hd; simp at hd
              | some p => rw [hj] at hd; simpa using hd
            simp only [yielded, hjd, Option.bind_some, StR.bool hst hl]
          cases b with
          | true =>
            have hst' := StR.know hst hl
            cases want with
            | true => exact run _ hst' hok (by simp [Region.wanted, hg, hy]) hk
            | false => exact skip _ hst' hok (by simp [Region.wanted, hg, hy]) hk
          | false =>
            have hst' := StR.know hst hl
            cases want with
            | true => exact skip _ hst' hok (by simp [Region.wanted, hg, hy]) hk
            | false => exact run _ hst' hok (by simp [Region.wanted, hg, hy]) hk
        · rename_i v hl
          have h3 := cond_some hk
          have hy : yielded ops a.tmps j = none := by
            have hjd : (ops[j]?).bind (·.dst) = some d := by
              unfold guardSlot at hd
              rw [Array.getElem?_toList] at hd
              cases hj : ops[j]? with
              | none => rw [hj] at hd; simp at hd
              | some p => rw [hj] at hd; simpa using hd
            exact yielded_undef hjd (StR.isU hst hl h3.1)
          exact skip _ hst hok (by simp [Region.wanted, hg, hy]) h3.2
        · simp at hk
      · simp at hk
end
end Go.Proofs.YtibdnfknokkadaaDoor.Ev
