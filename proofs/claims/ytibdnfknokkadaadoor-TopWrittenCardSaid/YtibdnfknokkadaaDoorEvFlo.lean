/- Regions of open order with one function that is entered, beside which operations stand in no order that change nothing. -/
import Derived.Test.YtibdnfknokkadaaDoorEvDraw
set_option linter.unusedVariables false
set_option linter.unusedSimpArgs false
namespace Go.Proofs.YtibdnfknokkadaaDoor.Ev
open Go Go.RowKit
variable {X : Nat → Prop}
section
variable {R : Type} {P : Program} {T : Tab} {F : PT} {s : From} {ops : Array Oper}
theorem Seq.congr {nid : Nat → Nat} {rc rc' : Nat → Rc} {l : List Nat} {E E' : Nat → AV} {H H' : List HE} (hs : Seq T F ops nid rc l E H E' H') : (∀ i ∈ l, rc i = rc' i) → Seq T F ops nid rc' l E H E' H' := by
  induction hs with
  | nil E H => intro _; exact .nil E H
  | cons hd h hs ih =>
    intro he
    refine .cons hd ?_ (ih fun i hi => he i (List.mem_cons_of_mem _ hi))
    obtain ⟨o, ho, hc⟩ := h
    have e := he _ (List.mem_cons_self ..)
    rw [e] at hc
    exact ⟨o, ho, hc⟩
theorem Seq.append {nid : Nat → Nat} {rc : Nat → Rc} {l l' : List Nat} {E E1 E' : Nat → AV} {H H1 H' : List HE} (hs : Seq T F ops nid rc l E H E1 H1) : Seq T F ops nid rc l' E1 H1 E' H' → Seq T F ops nid rc (l ++ l') E H E' H' := by
  induction hs with
  | nil E H => exact id
  | cons hd h hs ih => exact fun k => .cons hd h (ih k)
theorem Seq.keeps {nid : Nat → Nat} {rc : Nat → Rc} {l : List Nat} {E E' : Nat → AV} {H H' : List HE} (hs : Seq T F ops nid rc l E H E' H') : ∀ t, (∀ k ∈ l, ∀ o, ops[k]? = some o → o.dst ≠ some t) → E' t = E t := by
  induction hs with
  | nil E H => intro t _; rfl
  | @cons i l E E' H H' v u dst hd h hs ih =>
    intro t ht
    rw [ih t fun k hk => ht k (List.mem_cons_of_mem _ hk)]
    obtain ⟨o, ho, _⟩ := h
    refine updE_ne fun e => ht i (List.mem_cons_self ..) o ho ?_
    rw [ho] at hd
    exact hd.trans e
theorem Seq.at {nid : Nat → Nat} {rc : Nat → Rc} {l : List Nat} {E E' : Nat → AV} {H H' : List HE} (hs : Seq T F ops nid rc l E H E' H') : ∀ k ∈ l, ∃ o, ops[k]? = some o := by
  induction hs with
  | nil E H => intro k hk; cases hk
  | cons hd h hs ih =>
    intro k hk
    rcases List.mem_cons.1 hk with rfl | hk
    · obtain ⟨o, ho, _⟩ := h; exact ⟨o, ho⟩
    · exact ih k hk
theorem opE_agree {o : Oper} {E E' : Nat → AV} (h : ∀ t ∈ o.looksAt ops, E' t = E t) : ∀ x ∈ o.op.operands.toList, opE T E' x = opE T E x := by
  intro x hx
  cases x with
  | tmp t => exact h t (List.mem_append_left _ (List.mem_filterMap.2 ⟨.tmp t, hx, rfl⟩))
  | _ => rfl
theorem entersK_agree {A A' : Operand → AV} {o : Op} (h : ∀ x ∈ o.operands.toList, A x = A' x) : entersK F A o = entersK F A' o := by
  unfold entersK
  cases o with
  | call c =>
    simp only
    cases hc : c.callee with
    | value f =>
      simp only
      have hf : A f = A' f := h f (by simp [Op.operands, Call.operands, hc])
      have ha : c.args.toList.map A = c.args.toList.map A' := List.map_congr_left fun x hx => h x (by simp [Op.operands, Call.operands, hc] at hx ⊢; exact .inr hx)
      rw [hf, ha]
    | _ => rfl
  | _ => rfl
/-- No slot that an operation looks at is written by it, or behind it. -/
def Ssa (ops : Array Oper) (k j : Nat) : Prop := ∀ ok oj, ops[k]? = some ok → ops[j]? = some oj → ∀ d, oj.dst = some d → d ∉ ok.looksAt ops ∧ ok.dst ≠ some d
def Ssa0 (ops : Array Oper) (k : Nat) : Prop := ∀ ok, ops[k]? = some ok → ∀ d, ok.dst = some d → d ∉ ok.looksAt ops
/-- One that changes nothing, and says the same over the list E1, H1. -/
def Flo (T : Tab) (F : PT) (ops : Array Oper) (nid : Nat → Nat) (E1 : Nat → AV) (H1 : List HE) (k : Nat) : Prop := ∃ o d, ops[k]? = some o ∧ o.dst = some d ∧ o.guard = none ∧ locK T F o.op (opE T E1) H1 (nid k) (fun v u => some (v, u)) = some (E1 d, [])
/-- Those that change nothing may stand behind the call as well. -/
theorem Seq.over {nid : Nat → Nat} {rc : Nat → Rc} {dp : Option Tmp} {vp : AV} {h' : List HE} {E1 : Nat → AV} {H1 : List HE} : ∀ (l : List Nat) {E : Nat → AV} {H : List HE}, Seq T F ops nid rc l E H E1 H1 → l.Pairwise (Ssa ops) → (∀ k ∈ l, Ssa0 ops k) → (∀ k ∈ l, (rc k).2 = []) → (∀ k ∈ l, Flo T F ops nid E1 h' k) →
    (∀ k ∈ l, ∀ ok, ops[k]? = some ok → ∀ d, dp = some d → d ∉ ok.looksAt ops ∧ ok.dst ≠ some d) → H1 = H ∧ Seq T F ops nid rc l (updE dp vp E) h' (updE dp vp E1) h'
  | [], E, H, hs, _, _, _, _, _ => by cases hs; exact ⟨rfl, .nil _ _⟩
  | k :: l, E, H, hs, hp, h0, hw, hf, hd => by
    cases hs with
    | @cons _ _ _ _ _ _ v u dst hdst hstep hs =>
      rw [List.pairwise_cons] at hp
      have hwr := hstep.wr
      rw [hw k (List.mem_cons_self ..)] at hwr
      have hu : u = [] := by cases u with | nil => rfl | cons x u => simp at hwr
      subst hu
      obtain ⟨hH, hs'⟩ := Seq.over (vp := vp) l hs hp.2 (fun q hq => h0 q (List.mem_cons_of_mem _ hq)) (fun q hq => hw q (List.mem_cons_of_mem _ hq)) (fun q hq => hf q (List.mem_cons_of_mem _ hq)) (fun q hq => hd q (List.mem_cons_of_mem _ hq))
      refine ⟨hH, ?_⟩
      obtain ⟨o, d, ho, hod, hog, hloc⟩ := hf k (List.mem_cons_self ..)
      have hdk : dst = some d := by rw [ho] at hdst; exact hdst.symm.trans hod
      subst hdk
      -- what it looks at is as it was
      have hag : ∀ t ∈ o.looksAt ops, E1 t = E t := fun t ht => by
        rw [hs.keeps t (fun q hq oq hoq e => (hp.1 q hq o oq ho hoq t e).1 ht)]
        refine updE_ne (fun e => ?_)
        exact h0 k (List.mem_cons_self ..) o ho t (hod.trans e) ht
      have hv : E1 d = v := by
        rw [hs.keeps d (fun q hq oq hoq e => (hp.1 q hq o oq ho hoq d e).2 hod)]
        simp only [updE, Nat.beq_refl, cond_true]
      have hpd := hd k (List.mem_cons_self ..) o ho
      have hstep' : Step T F ops nid rc k (updE dp vp E) h' v [] := by
        have hops := opE_agree (T := T) hag
        have hopsp := opE_put (T := T) (v := vp) (E := E) (dst := dp) (o := o) (ops := ops) (fun t e => (hpd t e).1)
        obtain ⟨o', ho', hc⟩ := hstep
        obtain rfl := Option.some.inj (ho.symm.trans ho')
        refine ⟨o, ho, .inl ⟨by simp [wantE, hog], ?_, ?_, hw k (List.mem_cons_self ..)⟩⟩
        · rw [← hv, ← hloc]
          exact loc_local (fun x hx => (hopsp x hx).trans (hops x hx).symm) (fun _ _ => rfl) (fun _ _ => rfl)
        · rcases hc with ⟨_, _, h3, _⟩ | ⟨h1, _⟩
          · rw [h3]
            unfold fpR fpOf
            rw [List.map_congr_left hopsp]
          · simp [wantE, hog] at h1
      refine .cons hdst hstep' ?_
      rw [updE_comm (fun t e e' => (hpd t e').2 (hod.trans e))]
      exact hs'

/-- What the looks over the orders must have found of two operations, of which the first is told first. -/
def PairOK (ops : Array Oper) (rc : Nat → Rc) (i j : Nat) : Prop := (Ind ops rc i j ∧ ∀ k ∈ (rc i).2, k ∉ (rc j).2) ∨ bef (masks ops.toList) i j = true
abbrev EdgeOK (ops : Array Oper) : Prop := ∀ (i : Nat) (o : Oper), ops[i]? = some o → ∀ e ∈ o.after, Region.binds .any e = true → e.on < i
abbrev Closed (ops : Array Oper) (listed : Array Bool) : Prop := ∀ (q : Nat) (o : Oper), ops[q]? = some o → listed.getD q false = true → ∀ e ∈ o.after, Region.binds .any e = true → listed.getD e.on false = true
abbrev Stop (ops : Array Oper) (hi : Nat) : Prop := ∀ (j i : Nat), hi ≤ j → i < hi → j < ops.size → bef (masks ops.toList) i j = true
theorem bef_of_ready (hedge : EdgeOK ops) {listed : Array Bool} (hcl : Closed ops listed) {j : Nat} {o : Oper} (hoj : ops[j]? = some o) (hall : ∀ e ∈ o.after, Region.binds .any e = true → listed.getD e.on false = true) {i : Nat} (hb : bef (masks ops.toList) i j = true) : listed.getD i false = true :=
  bef_listed hedge hcl (j + 1) j (by omega) (Array.getElem?_eq_some_iff.1 hoj).1 (fun o' ho' e he hb => by
    obtain rfl := Option.some.inj (hoj.symm.trans ho')
    exact hall e he hb) i hb
theorem closed_set {listed : Array Bool} (hcl : Closed ops listed) {i : Nat} {o : Oper} (hoi : ops[i]? = some o) (hall : ∀ e ∈ o.after, Region.binds .any e = true → listed.getD e.on false = true) : Closed ops (listed.setIfInBounds i true) := fun q o' ho' hq' e he hb => by
  by_cases hqi : i = q
  · subst hqi
    obtain rfl := Option.some.inj (hoi.symm.trans ho')
    exact getD_set_true (hall e he hb)
  · rw [getD_set_ne false hqi] at hq'
    exact getD_set_true (hcl q o' ho' hq' e he hb)
/-- The least that is not listed yet is ready. -/
theorem ready_of (hedge : EdgeOK ops) {listed : Array Bool} (hs : listed.size = ops.size) {i : Nat} (hi : i < ops.size) (hun : listed.getD i false = false) : Region.ready .any ops listed ≠ [] := by
  induction i using Nat.strongRecOn with
  | ind i ih =>
    by_cases hall : ∀ e ∈ (ops[i]).after, Region.binds .any e = true → listed.getD e.on false = true
    · intro h0
      have hr : i ∈ Region.ready .any ops listed := by
        rw [mem_ready]
        exact ⟨by rw [← hun]; simp [hs, hi], ops[i], by simp [hi], hall⟩
      rw [h0] at hr; simp at hr
    · obtain ⟨e, hc⟩ := Classical.not_forall.1 hall
      obtain ⟨he, hc⟩ := Classical.not_imp.1 hc
      obtain ⟨hb, hc⟩ := Classical.not_imp.1 hc
      have hlt := hedge i ops[i] (by simp [hi]) e he hb
      exact ih e.on hlt (by omega) (by simpa using hc)
theorem any_list (hT : TabOK P T) (hF : FOK P T F) (hG : GOK X s T) {Q : Exit → Act → World → Prop} {n : Nat} {v0 : List Nat} {nid : Nat → Nat} {rc : Nat → Rc} {E' : Nat → AV} {H' : List HE} {hi : Nat} (hn : hi ≤ ops.size) (hedge : EdgeOK ops) (hstop : Stop ops hi) (hdst : ∀ (i : Nat) (o : Oper) (d : Tmp), i < hi → ops[i]? = some o → o.dst = some d → d < n)
    (hq : ∀ a w, StE X s n v0 E' H' a w → wpAny P .any ops Q (ops.size - hi) (upTo ops.size hi) a w) : ∀ (m : Nat) (l : List Nat) (listed : Array Bool) (E : Nat → AV) (H : List HE) (a : Act) (w : World), listed.size = ops.size → l.length = m → l.Nodup → (∀ i, i ∈ l ↔ i < hi ∧ listed.getD i false = false) →
      Closed ops listed → (∀ i, hi ≤ i → i < ops.size → listed.getD i false = false) → l.Pairwise (PairOK ops rc) → Seq T F ops nid rc l E H E' H' → StE X s n v0 E H a w →
      wpAny P .any ops Q (m + (ops.size - hi)) listed a w
  | 0, l, listed, E, H, a, w, hs, hl, hnd, hmem, hcl, hhigh, hpair, hseq, hst => by
    have hnil : l = [] := List.eq_nil_of_length_eq_zero hl
    subst hnil
    have he : listed = upTo ops.size hi := upTo_eq hs (fun i hin hlt => by
      cases hx : listed.getD i false with
      | true => rfl
      | false => exact absurd ((hmem i).2 ⟨hlt, hx⟩) (by simp)) (fun i hin hge => hhigh i hge hin)
    rw [he, Nat.zero_add]
    cases hseq
    exact hq a w hst
  | m + 1, l, listed, E, H, a, w, hs, hl, hnd, hmem, hcl, hhigh, hpair, hseq, hst => by
    obtain ⟨i0, l0, rfl⟩ : ∃ i0 l0, l = i0 :: l0 := by
      cases l with
      | nil => simp at hl
      | cons i0 l0 => exact ⟨i0, l0, rfl⟩
    obtain ⟨hlt0, hun0⟩ := (hmem i0).1 (by simp)
    rw [show m + 1 + (ops.size - hi) = (m + (ops.size - hi)) + 1 by omega]
    refine ⟨fun h0 => absurd h0 (ready_of hedge hs (by omega) hun0), fun i hi' => ?_⟩
    obtain ⟨h0, o, hoi, hall⟩ := mem_ready.1 hi'
    have hlt : i < ops.size := (Array.getElem?_eq_some_iff.1 hoi).1
    have hun : listed.getD i false = false := by rw [← h0]; simp [hs, hlt]
    have hih : i < hi := by
      rcases Nat.lt_or_ge i hi with h1 | h1
      · exact h1
      · have := bef_of_ready hedge hcl hoi hall (hstop i i0 h1 hlt0 hlt)
        rw [hun0] at this; cases this
    obtain ⟨l1, l2, he⟩ := List.append_of_mem ((hmem i).2 ⟨hih, hun⟩)
    rw [he] at hnd hpair hseq hmem hl
    have hnd' := List.nodup_append.1 hnd
    have hind : ∀ k ∈ l1, Ind ops rc k i ∧ ∀ q ∈ (rc k).2, q ∉ (rc i).2 := fun k hk => by
      rcases (List.pairwise_append.1 hpair).2.2 k hk i (by simp) with h1 | h1
      · exact h1
      · have := bef_of_ready hedge hcl hoi hall h1
        rw [((hmem k).1 (by simp [hk])).2] at this; cases this
    obtain ⟨v, u, hstep, hseq'⟩ := hseq.first l1 l2 (fun k hk => (hind k hk).1) (fun k hk => (hind k hk).2)
    have hsub : (l1 ++ l2).Sublist (l1 ++ i :: l2) := List.Sublist.append (List.Sublist.refl _) (List.sublist_cons_self ..)
    have hnin : i ∉ l1 ++ l2 := fun hm => by
      rcases List.mem_append.1 hm with h1 | h1
      · exact hnd'.2.2 i h1 i (by simp) rfl
      · exact (List.nodup_cons.1 hnd'.2.1).1 h1
    have hmem' : ∀ j, j ∈ l1 ++ l2 ↔ j < hi ∧ (listed.setIfInBounds i true).getD j false = false := fun j => by
      by_cases hji : i = j
      · subst hji
        constructor
        · intro h; exact absurd h hnin
        · rintro ⟨_, h⟩; simp [hs, hlt] at h
      · rw [getD_set_ne false hji, ← hmem j]
        simp only [List.mem_append, List.mem_cons]
        constructor
        · rintro (h | h)
          · exact .inl h
          · exact .inr (.inr h)
        · rintro (h | h | h)
          · exact .inl h
          · exact absurd h.symm hji
          · exact .inr h
    have next := fun a' w' hst' => any_list hT hF hG hn hedge hstop hdst hq m (l1 ++ l2) (listed.setIfInBounds i true) _ _ a' w' (by simpa using hs) (by simp only [List.length_append, List.length_cons] at hl ⊢; omega) (hnd.sublist hsub) hmem' (closed_set hcl hoi hall)
      (fun q hq1 hq2 => by rw [getD_set_ne false (by omega)]; exact hhigh q hq1 hq2) (hpair.sublist hsub) hseq' hst'
    obtain ⟨o', ho', hcase⟩ := hstep
    obtain rfl := Option.some.inj (hoi.symm.trans ho')
    have hdi : (ops[i]?).bind (·.dst) = o.dst := by rw [hoi]; rfl
    rw [hdi] at next
    unfold wpOp
    simp only [hoi]
    rcases hcase with ⟨h1, h2, _, _⟩ | ⟨h1, rfl, rfl, _⟩
    · rw [if_pos (wantE_sound hst h1)]
      obtain ⟨ρ, k1, k2, k3, k4, k5, k6, k7, k8, k9⟩ := hst
      refine .inl (locK_sound hT hF k1 k7 (hG.fwd k5) (opE_sound (hG.fwd k5) k2) h2 (fun v' av' u' w' hk' hd' => ?_))
      simp only [Option.some.injEq, Prod.mk.injEq] at hk'
      obtain ⟨rfl, rfl⟩ := hk'
      exact next _ _ (StE.put k2 k3 k4 k5 k6 k7 k8 k9 (fun d hd => hdst i o d hih hoi hd) hd')
    · rw [if_neg (by rw [wantE_sound hst h1]; exact Bool.false_ne_true)]
      obtain ⟨ρ, k1, k2, k3, k4, k5, k6, k7, k8, k9⟩ := hst
      exact next _ _ (StE.put k2 k3 k4 k5 k6 k7 k8 k9 (fun d hd => hdst i o d hih hoi hd) ⟨ρ, k1, .lit _, .refl _ _ _, Below.refl _ _⟩)
theorem Seq.same {nid : Nat → Nat} {rc : Nat → Rc} {l : List Nat} {E E' : Nat → AV} {H H' : List HE} (hs : Seq T F ops nid rc l E H E' H') : (∀ k ∈ l, (rc k).2 = []) → H' = H := by
  induction hs with
  | nil E H => intro _; rfl
  | @cons i l E E' H H' v u dst hd h hs ih =>
    intro hw
    rw [ih fun k hk => hw k (List.mem_cons_of_mem _ hk)]
    have hwr := h.wr
    rw [hw i (List.mem_cons_self ..)] at hwr
    have hu : u = [] := by cases u with | nil => rfl | cons x u => simp at hwr
    subst hu; rfl
/-- Up to the function that is entered, whenever its turn comes. -/
theorem any_flo {C : CallK R} (hT : TabOK P T) (hF : FOK P T F) (hG : GOK X s T) (hC : COK X s.base P T C) {Q : Exit → Act → World → Prop} {n : Nat} {v0 : List Nat} {nid : Nat → Nat} {rc : Nat → Rc} {E1 : Nat → AV} {H1 : List HE} {hi p : Nat} {op : Oper} {g : FuncId} {args : List AV} {Kc : AV → List HE → Option R} {r : R} {A B : List Nat}
    (hop : ops[p]? = some op) (hpg : op.guard = none) (hp : p < hi) (hn : hi ≤ ops.size) (hedge : EdgeOK ops) (hstop : Stop ops hi) (hent : entersK F (opE T E1) op.op = some (g, args)) (hC1 : C g args H1 Kc = some r) (hdp : ∀ d, op.dst = some d → d < n)
    (hAm : ∀ i ∈ A, i < hi ∧ i ≠ p) (hBm : ∀ i ∈ B, i < hi ∧ i ≠ p ∧ bef (masks ops.toList) p i = true) (hAB : ∀ i, i < hi → i ≠ p → i ∈ A ∨ i ∈ B) (hnd : (A ++ B).Nodup)
    (hssa : A.Pairwise (Ssa ops)) (hssa0 : ∀ k ∈ A, Ssa0 ops k) (hflo : ∀ k ∈ A, bef (masks ops.toList) k p = false → (rc k).2 = [] ∧ ∀ ok, ops[k]? = some ok → ok.apart ops op = true) (hpair : A.Pairwise (PairOK ops rc))
    (hdst : ∀ (i : Nat) (o : Oper) (d : Tmp), i ∈ A → ops[i]? = some o → o.dst = some d → d < n)
    (hnext : ∀ v h', Kc v h' = some r → ∃ rc2 E2 H2, (∀ k ∈ A, rc k = rc2 k) ∧ (∀ k ∈ A, bef (masks ops.toList) k p = false → Flo T F ops nid E1 h' k) ∧ Seq T F ops nid rc2 B (updE op.dst v E1) h' E2 H2 ∧ (A ++ B).Pairwise (PairOK ops rc2) ∧ (∀ (i : Nat) (o : Oper) (d : Tmp), i ∈ B → ops[i]? = some o → o.dst = some d → d < n) ∧ ∀ a w, StE X s n v0 E2 H2 a w → wpAny P .any ops Q (ops.size - hi) (upTo ops.size hi) a w) :
    ∀ (m : Nat) (l : List Nat) (listed : Array Bool) (E : Nat → AV) (H : List HE) (a : Act) (w : World), listed.size = ops.size → l.length = m → l.Sublist A → (∀ i ∈ A, i ∈ l ↔ listed.getD i false = false) → (∀ i ∈ B, listed.getD i false = false) → listed.getD p false = false → Closed ops listed →
      (∀ i, hi ≤ i → i < ops.size → listed.getD i false = false) → Seq T F ops nid rc l E H E1 H1 → StE X s n v0 E H a w → wpAny P .any ops Q (m + 1 + B.length + (ops.size - hi)) listed a w := by
  have hpl : p < ops.size := by omega
  intro m
  induction m using Nat.strongRecOn with
  | ind m ih =>
  intro l listed E H a w hs hl hsub hmem hB hunp hcl hhigh hseq hst
  rw [show m + 1 + B.length + (ops.size - hi) = (m + B.length + (ops.size - hi)) + 1 by omega]
  refine ⟨fun h0 => absurd h0 (ready_of hedge hs hpl hunp), fun i hi' => ?_⟩
  obtain ⟨h0, o, hoi, hall⟩ := mem_ready.1 hi'
  have hlt : i < ops.size := (Array.getElem?_eq_some_iff.1 hoi).1
  have hun : listed.getD i false = false := by rw [← h0]; simp [hs, hlt]
  have hih : i < hi := by
    rcases Nat.lt_or_ge i hi with h1 | h1
    · exact h1
    · have := bef_of_ready hedge hcl hoi hall (hstop i p h1 hp hlt)
      rw [hunp] at this; cases this
  by_cases hip : i = p
  · subst hip
    obtain rfl := Option.some.inj (hop.symm.trans hoi)
    have hfl : ∀ k ∈ l, bef (masks ops.toList) k i = false := fun k hk => by
      cases hb : bef (masks ops.toList) k i with
      | false => rfl
      | true =>
        have := bef_of_ready hedge hcl hoi hall hb
        rw [(hmem k (hsub.subset hk)).1 hk] at this; cases this
    have hwr : ∀ k ∈ l, (rc k).2 = [] := fun k hk => (hflo k (hsub.subset hk) (hfl k hk)).1
    have hap : ∀ k ∈ l, ∀ ok, ops[k]? = some ok → (∀ d, op.dst = some d → d ∉ ok.looksAt ops ∧ ok.dst ≠ some d) ∧ ∀ d, ok.dst = some d → d ∉ op.looksAt ops := fun k hk ok hok => by
      obtain ⟨a1, a2, a3⟩ := Oper.apart_spec ((hflo k (hsub.subset hk) (hfl k hk)).2 ok hok)
      exact ⟨fun d hd => ⟨a3 d hd, fun e => a2 d e hd⟩, a1⟩
    have hH := hseq.same hwr
    have hag : ∀ t ∈ op.looksAt ops, E1 t = E t := fun t ht => hseq.keeps t fun k hk ok hok e => (hap k hk ok hok).2 t e ht
    have hent' : entersK F (opE T E) op.op = some (g, args) := by
      rw [← hent]
      exact entersK_agree fun x hx => (opE_agree (T := T) hag x hx).symm
    unfold wpOp
    simp only [hop]
    rw [if_pos (wantE_sound hst (b := true) (by simp [wantE, hpg]))]
    obtain ⟨ρ, f1, f2, f3, f4, f5, f6, f7, f8, f9⟩ := hst
    refine .inl (call_sound (F := F) (A := opE T E) hC f1 f7 (hG.fwd f5) (opE_sound (hG.fwd f5) f2) hent' (hH ▸ hC1) (fun v av h' w' hk' hd' => ?_))
    obtain ⟨rc2, E2, H2, hrc, hfl2, hseqB, hpr2, hdstB, hfin⟩ := hnext av h' hk'
    have hE' := StE.put (s := s) (n := n) (v0 := v0) f2 f3 f4 f5 f6 f7 f8 f9 hdp hd'
    have hover := (Seq.over (vp := av) (dp := op.dst) l hseq (hssa.sublist hsub) (fun k hk => hssa0 k (hsub.subset hk)) hwr (fun k hk => hfl2 k (hsub.subset hk) (hfl k hk)) (fun k hk ok hok => (hap k hk ok hok).1)).2
    have hall' := (hover.congr fun k hk => hrc k (hsub.subset hk)).append hseqB
    have hsub2 : (l ++ B).Sublist (A ++ B) := List.Sublist.append hsub (List.Sublist.refl _)
    refine any_list hT hF hG hn hedge hstop (fun q o' d hq1 hq2 hq3 => ?_) hfin (m + B.length) (l ++ B) (listed.setIfInBounds i true) _ _ _ w' (by simpa using hs) (by simp [hl]) (hnd.sublist hsub2) (fun j => ?_) (closed_set hcl hoi hall) (fun q hq1 hq2 => by rw [getD_set_ne false (by omega)]; exact hhigh q hq1 hq2) (hpr2.sublist hsub2) hall' hE'
    · by_cases hqi : q = i
      · subst hqi
        obtain rfl := Option.some.inj (hop.symm.trans hq2)
        exact hdp d hq3
      · rcases hAB q hq1 hqi with h | h
        · exact hdst q o' d h hq2 hq3
        · exact hdstB q o' d h hq2 hq3
    · constructor
      · intro hj
        rcases List.mem_append.1 hj with h | h
        · have hjA := hsub.subset h
          refine ⟨(hAm j hjA).1, ?_⟩
          rw [getD_set_ne false (Ne.symm (hAm j hjA).2)]
          exact (hmem j hjA).1 h
        · obtain ⟨b1, b2, _⟩ := hBm j h
          refine ⟨b1, ?_⟩
          rw [getD_set_ne false (Ne.symm b2)]
          exact hB j h
      · rintro ⟨hj1, hj2⟩
        by_cases hji : i = j
        · subst hji; simp [hs, hlt] at hj2
        · rw [getD_set_ne false hji] at hj2
          rcases hAB j hj1 (Ne.symm hji) with h | h
          · exact List.mem_append_left _ ((hmem j h).2 hj2)
          · exact List.mem_append_right _ h
  · have hiA : i ∈ A := by
      rcases hAB i hih hip with h | h
      · exact h
      · have := bef_of_ready hedge hcl hoi hall (hBm i h).2.2
        rw [hunp] at this; cases this
    obtain ⟨l1, l2, rfl⟩ := List.append_of_mem ((hmem i hiA).2 hun)
    have hndl : (l1 ++ i :: l2).Nodup := (hnd.sublist (List.sublist_append_left A B)).sublist hsub
    have hnd' := List.nodup_append.1 hndl
    have hprl := hpair.sublist hsub
    have hind : ∀ k ∈ l1, Ind ops rc k i ∧ ∀ q ∈ (rc k).2, q ∉ (rc i).2 := fun k hk => by
      rcases (List.pairwise_append.1 hprl).2.2 k hk i (by simp) with h1 | h1
      · exact h1
      · have := bef_of_ready hedge hcl hoi hall h1
        rw [(hmem k (hsub.subset (by simp [hk]))).1 (by simp [hk])] at this; cases this
    obtain ⟨v, u, hstep, hseq'⟩ := hseq.first l1 l2 (fun k hk => (hind k hk).1) (fun k hk => (hind k hk).2)
    have hsubl : (l1 ++ l2).Sublist (l1 ++ i :: l2) := List.Sublist.append (List.Sublist.refl _) (List.sublist_cons_self ..)
    have hnin : i ∉ l1 ++ l2 := fun hm => by
      rcases List.mem_append.1 hm with h1 | h1
      · exact hnd'.2.2 i h1 i (by simp) rfl
      · exact (List.nodup_cons.1 hnd'.2.1).1 h1
    have hmem' : ∀ j ∈ A, j ∈ l1 ++ l2 ↔ (listed.setIfInBounds i true).getD j false = false := fun j hj => by
      by_cases hji : i = j
      · subst hji
        constructor
        · intro h; exact absurd h hnin
        · intro h; simp [hs, hlt] at h
      · rw [getD_set_ne false hji, ← hmem j hj]
        simp only [List.mem_append, List.mem_cons]
        constructor
        · rintro (h | h)
          · exact .inl h
          · exact .inr (.inr h)
        · rintro (h | h | h)
          · exact .inl h
          · exact absurd h.symm hji
          · exact .inr h
    have hlen : (l1 ++ l2).length + 1 = m := by rw [← hl]; simp only [List.length_append, List.length_cons]; omega
    have next := fun a' w' hst' => ih (l1 ++ l2).length (by omega) (l1 ++ l2) (listed.setIfInBounds i true) _ _ a' w' (by simpa using hs) rfl (hsubl.trans hsub) hmem' (fun j hj => by
      rw [getD_set_ne false (fun e => ?_)]
      · exact hB j hj
      · subst e
        exact (List.nodup_append.1 hnd).2.2 i hiA i hj rfl) (by rw [getD_set_ne false hip]; exact hunp) (closed_set hcl hoi hall)
      (fun q hq1 hq2 => by rw [getD_set_ne false (by omega)]; exact hhigh q hq1 hq2) hseq' hst'
    rw [show (l1 ++ l2).length + 1 + B.length + (ops.size - hi) = m + B.length + (ops.size - hi) by omega] at next
    obtain ⟨o', ho', hcase⟩ := hstep
    obtain rfl := Option.some.inj (hoi.symm.trans ho')
    have hdi : (ops[i]?).bind (·.dst) = o.dst := by rw [hoi]; rfl
    rw [hdi] at next
    have hdi' : ∀ d, o.dst = some d → d < n := fun d hd => hdst i o d hiA hoi hd
    unfold wpOp
    simp only [hoi]
    rcases hcase with ⟨h1, h2, _, _⟩ | ⟨h1, rfl, rfl, _⟩
    · rw [if_pos (wantE_sound hst h1)]
      obtain ⟨ρ, k1, k2, k3, k4, k5, k6, k7, k8, k9⟩ := hst
      refine .inl (locK_sound hT hF k1 k7 (hG.fwd k5) (opE_sound (hG.fwd k5) k2) h2 (fun v' av' u' w' hk' hd' => ?_))
      simp only [Option.some.injEq, Prod.mk.injEq] at hk'
      obtain ⟨rfl, rfl⟩ := hk'
      exact next _ _ (StE.put k2 k3 k4 k5 k6 k7 k8 k9 hdi' hd')
    · rw [if_neg (by rw [wantE_sound hst h1]; exact Bool.false_ne_true)]
      obtain ⟨ρ, k1, k2, k3, k4, k5, k6, k7, k8, k9⟩ := hst
      exact next _ _ (StE.put k2 k3 k4 k5 k6 k7 k8 k9 hdi' ⟨ρ, k1, .lit _, .refl _ _ _, Below.refl _ _⟩)

theorem lineup_mem : ∀ (l : List Oper) (i nid : Nat) (x : Lin), x ∈ lineup F l i nid → ∃ j, x.1 = i + j ∧ l[j]? = some x.2.2 ∧ x.2.1 = nid + makers F (l.take j)
  | [], _, _, x, h => by simp [lineup] at h
  | o :: l, i, nid, x, h => by
    simp only [lineup, List.mem_cons] at h
    rcases h with rfl | h
    · exact ⟨0, rfl, rfl, by simp [makers]⟩
    · obtain ⟨j, h1, h2, h3⟩ := lineup_mem l (i + 1) (nid + makesN F o.op) x h
      exact ⟨j + 1, by omega, by simpa using h2, by rw [h3, List.take_succ_cons]; simp only [makers]; omega⟩
theorem lineup_fst : ∀ (l : List Oper) (i nid : Nat), (lineup F l i nid).map (·.1) = List.range' i l.length
  | [], _, _ => rfl
  | o :: l, i, nid => by simp [lineup, lineup_fst l, List.range'_succ]
theorem opsL_seq {K : St → RcL → Option R} {r : R} : ∀ (l : List Lin) (st : St) (acc : RcL), opsL T F l st acc K = some r → ∃ (st' : St) (recs : RcL), K st' (acc ++ recs) = some r ∧ recs.map (·.1) = l.map (·.1) ∧ st'.n = st.n ∧ st'.v0 = st.v0 ∧ (∀ x ∈ l, x.2.2.guard = none ∧ ∀ d, x.2.2.dst = some d → d < st.n) ∧
    ∀ (nid : Nat → Nat) (rc : Nat → Rc), (∀ x ∈ l, ops[x.1]? = some x.2.2 ∧ nid x.1 = x.2.1) → (∀ y ∈ recs, rc y.1 = y.2) → Seq T F ops nid rc (l.map (·.1)) (look st.env) st.heap (look st'.env) st'.heap
  | [], st, acc, hk => ⟨st, [], by simpa [opsL] using hk, rfl, rfl, rfl, by simp, fun _ _ _ _ => .nil _ _⟩
  | (i, nd, o) :: l, st, acc, hk => by
    simp only [opsL] at hk
    have h2 := cond_some hk
    clear hk
    obtain ⟨hc, hk⟩ := h2
    rw [Bool.and_eq_true] at hc
    have hg : o.guard = none := Option.isNone_iff_eq_none.1 hc.2
    obtain ⟨v, u, h1, h2⟩ := loc_split hk
    obtain ⟨st', recs, k1, k2, k3, k4, k5, k6⟩ := opsL_seq l _ _ h2
    have en : (st.put o.dst v (applyU u st.heap)).n = st.n := by cases o.dst <;> rfl
    have ev0 : (st.put o.dst v (applyU u st.heap)).v0 = st.v0 := by cases o.dst <;> rfl
    have eh : (st.put o.dst v (applyU u st.heap)).heap = applyU u st.heap := by cases o.dst <;> rfl
    refine ⟨st', (i, fpR F o.op (opv T st.env) nd, u.map (·.1)) :: recs, by rw [List.append_assoc] at k1; exact k1, by simp [k2], k3.trans en, k4.trans ev0, fun x hx => ?_, fun nid rc hx hrc => ?_⟩
    · rcases List.mem_cons.1 hx with rfl | hx
      · refine ⟨hg, fun d hd => ?_⟩
        have := hc.1
        rw [hd] at this
        exact Nat.le_of_ble_eq_true (show Nat.ble (d + 1) st.n = true from this)
      · rw [← en]; exact k5 x hx
    · obtain ⟨ho, hn⟩ := hx (i, nd, o) (by simp)
      have hs := k6 nid rc (fun x h => hx x (List.mem_cons_of_mem _ h)) (fun y h => hrc y (List.mem_cons_of_mem _ h))
      rw [look_put, eh] at hs
      have hr := hrc (i, fpR F o.op (opv T st.env) nd, u.map (·.1)) (by simp)
      rw [opv_eq] at h1 hr
      simp only at ho hn hr
      exact .cons (by rw [ho]; rfl) ⟨o, ho, .inl ⟨by simp [wantE, hg], by rw [hn]; exact h1, by rw [hr, hn], by rw [hr]⟩⟩ hs
theorem opsC_spec {st : St} {h : List HE} {K : Option R} {r : R} : ∀ (l : List Lin), opsC T F l st h K = some r → K = some r ∧ ∀ x ∈ l, ∃ d, x.2.2.dst = some d ∧ locK T F x.2.2.op (opv T st.env) h x.2.1 (fun v u => some (v, u)) = some (look st.env d, [])
  | [], hk => ⟨hk, by simp⟩
  | (i, nd, o) :: l, hk => by
    simp only [opsC] at hk
    split at hk
    · rename_i d hd
      obtain ⟨v, u, h1, h2⟩ := loc_split hk
      cases u with
      | nil =>
        obtain ⟨rfl, h3⟩ := eqG_some h2
        obtain ⟨k1, k2⟩ := opsC_spec l h3
        refine ⟨k1, fun x hx => ?_⟩
        rcases List.mem_cons.1 hx with rfl | hx
        · exact ⟨d, hd, h1⟩
        · exact k2 x hx
      | cons x u => simp at h2
    · simp at hk
theorem disj_spec {a b : List Nat} (hd : disj a b = true) : ∀ i ∈ a, i ∉ b := fun i hi hib => by
  have := List.all_eq_true.1 hd i hi
  rw [memN_true.2 hib] at this
  simp at this
def rcAt (l : RcL) (i : Nat) : Rc := match l.find? (fun y => Nat.beq y.1 i) with | some y => y.2 | none => ([], [])
theorem rcAt_mem : ∀ (l : RcL), l.Pairwise (fun x y => x.1 ≠ y.1) → ∀ y ∈ l, rcAt l y.1 = y.2
  | [], _, y, h => by simp at h
  | x :: l, hp, y, h => by
    rw [List.pairwise_cons] at hp
    unfold rcAt
    rcases List.mem_cons.1 h with rfl | h
    · simp [List.find?_cons, Nat.beq_refl]
    · have hne : Nat.beq x.1 y.1 = false := by
        cases hb : Nat.beq x.1 y.1 with
        | false => rfl
        | true => exact absurd (Nat.eq_of_beq_eq_true hb) (hp.1 y h)
      rw [List.find?_cons, hne]
      exact rcAt_mem l hp.2 y h
theorem rcAt_left {l l' : RcL} {i : Nat} (hi : i ∈ l.map (·.1)) : rcAt (l ++ l') i = rcAt l i := by
  unfold rcAt
  rw [List.find?_append]
  obtain ⟨x, hx, rfl⟩ := List.mem_map.1 hi
  cases hf : l.find? (fun y => Nat.beq y.1 x.1) with
  | some y => rfl
  | none =>
    have := List.find?_eq_none.1 hf x hx
    simp at this
theorem pairG_spec : ∀ (l : RcL), pairG ops (masks ops.toList) l = true → l.Pairwise (fun x y => x.1 ≠ y.1 ∧ (bef (masks ops.toList) x.1 y.1 = true ∨ apartI ops x.1 y.1 = true ∧ (∀ i ∈ x.2.2, i ∉ y.2.1) ∧ (∀ i ∈ x.2.2, i ∉ y.2.2) ∧ ∀ i ∈ y.2.2, i ∉ x.2.1))
  | [], _ => .nil
  | x :: l, h => by
    simp only [pairG, Bool.and_eq_true] at h
    refine .cons (fun y hy => ?_) (pairG_spec l h.2)
    have := List.all_eq_true.1 h.1 y hy
    simp only [Bool.and_eq_true, Bool.or_eq_true, Bool.not_eq_true'] at this
    refine ⟨fun e => ?_, ?_⟩
    · have h1 := this.1
      rw [e, Nat.beq_refl] at h1; cases h1
    · rcases this.2 with h2 | ⟨⟨⟨h2, h3⟩, h4⟩, h5⟩
      · exact .inl h2
      · exact .inr ⟨h2, disj_spec h3, disj_spec h4, disj_spec h5⟩
theorem pairs_of {l : RcL} (h : pairG ops (masks ops.toList) l = true) : (l.map (·.1)).Pairwise (PairOK ops (rcAt l)) ∧ ∀ y ∈ l, rcAt l y.1 = y.2 := by
  have hp := pairG_spec l h
  have hr := rcAt_mem l (hp.imp fun h => h.1)
  refine ⟨List.pairwise_map.2 (hp.imp_of_mem fun hx hy hxy => ?_), hr⟩
  rcases hxy.2 with h1 | ⟨h1, h2, h3, h4⟩
  · exact .inr h1
  · refine .inl ⟨⟨fun oi oj hi hj => ?_, ?_, ?_⟩, ?_⟩
    · simpa [apartI, hi, hj] using h1
    · rw [hr _ hx, hr _ hy]; exact h2
    · rw [hr _ hx, hr _ hy]; exact h4
    · rw [hr _ hx, hr _ hy]; exact h3
theorem ssaG_spec : ∀ (l : List Lin), (∀ x ∈ l, ops[x.1]? = some x.2.2) → ssaG ops l = true → (l.map (·.1)).Pairwise (Ssa ops) ∧ ∀ k ∈ l.map (·.1), Ssa0 ops k
  | [], _, _ => ⟨.nil, by simp⟩
  | x :: l, ha, h => by
    simp only [ssaG, Bool.and_eq_true] at h
    obtain ⟨k1, k2⟩ := ssaG_spec l (fun y hy => ha y (List.mem_cons_of_mem _ hy)) h.2
    have hx := ha x (by simp)
    have key : ∀ y ∈ x :: l, ∀ d, y.2.2.dst = some d → d ∉ x.2.2.looksAt ops := fun y hy d hd => by
      have := List.all_eq_true.1 h.1.1 y hy
      rw [hd] at this
      simpa using this
    refine ⟨by
      rw [List.map_cons, List.pairwise_cons]
      refine ⟨fun j hj => ?_, k1⟩
      obtain ⟨y, hy, rfl⟩ := List.mem_map.1 hj
      intro ok oj h1 h2 d hd
      obtain rfl := Option.some.inj (hx.symm.trans h1)
      obtain rfl := Option.some.inj ((ha y (List.mem_cons_of_mem _ hy)).symm.trans h2)
      refine ⟨key y (List.mem_cons_of_mem _ hy) d hd, fun e => ?_⟩
      have := List.all_eq_true.1 h.1.2 y hy
      rw [hd] at this
      simp [e] at this, fun k hk => ?_⟩
    rw [List.map_cons] at hk
    rcases List.mem_cons.1 hk with rfl | hk
    · intro ok h1 d hd
      obtain rfl := Option.some.inj (hx.symm.trans h1)
      exact key x (by simp) d hd
    · exact k2 k hk
theorem stopG_spec {q n : Nat} {ms : List Nat} (h : stopG ms q n = true) : ∀ j i, q ≤ j → i < q → j < n → bef ms i j = true := fun j i h1 h2 h3 => by
  have := List.all_eq_true.1 h j (List.mem_range.2 h3)
  rw [show Nat.ble q j = true from Nat.ble_eq_true_of_le h1] at this
  exact List.all_eq_true.1 this i (List.mem_range.2 h2)
theorem take_range : ∀ {q n i : Nat}, q ≤ n → (List.range' i n).take q = List.range' i q
  | 0, n, i, _ => rfl
  | q + 1, 0, i, h => by omega
  | q + 1, n + 1, i, h => by rw [List.range'_succ, List.range'_succ, List.take_succ_cons, take_range (by omega)]
theorem one_of {p : Nat} : ∀ (l : List Nat), l.Nodup → p ∈ l → (l.filter fun i => Nat.beq i p).length = 1
  | [], _, h => by simp at h
  | x :: l, hn, h => by
    rw [List.nodup_cons] at hn
    rw [List.filter_cons]
    cases hb : Nat.beq x p with
    | true =>
      have hx := Nat.eq_of_beq_eq_true hb
      subst hx
      have : l.filter (fun i => Nat.beq i x) = [] := List.filter_eq_nil_iff.2 fun i hi hc => hn.1 (Nat.eq_of_beq_eq_true hc ▸ hi)
      simp [this]
    | false =>
      rcases List.mem_cons.1 h with rfl | h
      · rw [Nat.beq_refl] at hb; cases hb
      · simpa using one_of l hn.2 h
theorem three_parts {ms : List Nat} {p : Nat} : ∀ (L : List Lin), (linA ms p L).length + (linB ms p L).length + ((L.map (·.1)).filter fun i => Nat.beq i p).length = L.length
  | [] => rfl
  | x :: L => by
    have ih := three_parts (ms := ms) (p := p) L
    unfold linA linB at ih ⊢
    simp only [List.filter_cons, List.map_cons]
    cases hb : Nat.beq x.1 p with
    | true => simp; omega
    | false =>
      cases hc : bef ms p x.1 with
      | true => simp; omega
      | false => simp; omega
theorem flo_sound {C : CallK R} (hT : TabOK P T) (hF : FOK P T F) (hG : GOK X s T) (hC : COK X s.base P T C) (hm : P.follows .mixedOrders = true) {Q : Exit → Act → World → Prop} {K : St → Option R} {r : R} {id p q : Nat} {st : St} {a : Act} {w : World}
    (hq : ∀ st a w, K st = some r → StR X s st a w → Q .normal a w)
    (hk : opsG T F C ops p q st.heap.length (reserve F ops.toList st) K = some r) (hst : StR X s (reserve F ops.toList st) a w) : (Code.region id ops true).wp P Q a w := by
  refine wp_region_any hm ?_
  obtain ⟨ρ, g1, g2, g3, g4, g5, g6, g7, g8, g9⟩ := hst
  have hdraw : StE X s st.n st.v0 (look (reserve F ops.toList st).env) (reserve F ops.toList st).heap a { w with drawn := w.drawn + 1 } := by
    obtain ⟨hh, f⟩ := HeapR_same (w' := { w with drawn := w.drawn + 1 }) g1 (Nat.le_refl _) (fun _ _ => rfl)
    exact ⟨ρ, hh, fun t => VR_fwd f (g2 t), g3, g4, g5.trans f, g6.trans (of_Below rfl rfl rfl (Nat.le_refl _) (fun _ _ => rfl) (Nat.le_add_right _ 1)), g7, g8, g9⟩
  clear g1 g2 g3 g4 g5 g6 g7 g8 g9
  unfold opsG at hk
  have hk := cond_some hk
  obtain ⟨hc, hk⟩ := hk
  simp only [Bool.and_eq_true] at hc
  obtain ⟨⟨⟨⟨hs, hpq⟩, hqn⟩, hstp⟩, hss⟩ := hc
  have hp : p < q := Nat.le_of_ble_eq_true (show Nat.ble (p + 1) q = true from hpq)
  have hn : q ≤ ops.size := by have := Nat.le_of_ble_eq_true hqn; rwa [Array.length_toList] at this
  have hstop : Stop ops q := fun j i h1 h2 h3 => stopG_spec hstp j i h1 h2 (by rwa [Array.length_toList])
  have hedge : EdgeOK ops := fun i o ho e he hb => by
    have hs' := hs
    simp only [staticOK, Bool.and_eq_true] at hs'
    have := edgesOK_spec _ _ hs'.1 i o (by rw [Array.getElem?_toList]; exact ho) e he hb
    omega
  generalize hL : (lineup F ops.toList 0 st.heap.length).take q = L at hk hss
  have hLm : ∀ x ∈ L, ops[x.1]? = some x.2.2 ∧ st.heap.length + makers F (ops.toList.take x.1) = x.2.1 := fun x hx => by
    rw [← hL] at hx
    obtain ⟨j, h1, h2, h3⟩ := lineup_mem _ _ _ _ (List.mem_of_mem_take hx)
    rw [Nat.zero_add] at h1
    subst h1
    exact ⟨by rw [← Array.getElem?_toList]; exact h2, h3.symm⟩
  have hLf : L.map (·.1) = List.range' 0 q := by
    rw [← hL, List.map_take, lineup_fst, Array.length_toList]
    exact take_range hn
  have hLn : (L.map (·.1)).Nodup := by rw [hLf]; exact List.nodup_range'
  have hLi : ∀ i, i < q → ∃ x ∈ L, x.1 = i := fun i hi => by
    have : i ∈ L.map (·.1) := by rw [hLf]; exact List.mem_range'_1.2 ⟨by omega, by omega⟩
    obtain ⟨x, hx, rfl⟩ := List.mem_map.1 this
    exact ⟨x, hx, rfl⟩
  have hLq : ∀ x ∈ L, x.1 < q := fun x hx => by
    have : x.1 ∈ L.map (·.1) := List.mem_map.2 ⟨x, hx, rfl⟩
    rw [hLf] at this
    have := List.mem_range'_1.1 this
    omega
  have hAx : ∀ x, x ∈ linA (masks ops.toList) p L ↔ x ∈ L ∧ x.1 ≠ p ∧ bef (masks ops.toList) p x.1 = false := fun x => by
    unfold linA
    rw [List.mem_filter, Bool.and_eq_true, Bool.not_eq_true', Bool.not_eq_true']
    constructor
    · rintro ⟨h1, h2, h3⟩; exact ⟨h1, fun e => (by rw [e, Nat.beq_refl] at h2; cases h2), h3⟩
    · rintro ⟨h1, h2, h3⟩; exact ⟨h1, by cases hb : Nat.beq x.1 p with | false => rfl | true => exact absurd (Nat.eq_of_beq_eq_true hb) h2, h3⟩
  have hBx : ∀ x, x ∈ linB (masks ops.toList) p L ↔ x ∈ L ∧ x.1 ≠ p ∧ bef (masks ops.toList) p x.1 = true := fun x => by
    unfold linB
    rw [List.mem_filter, Bool.and_eq_true, Bool.not_eq_true']
    constructor
    · rintro ⟨h1, h2, h3⟩; exact ⟨h1, fun e => (by rw [e, Nat.beq_refl] at h2; cases h2), h3⟩
    · rintro ⟨h1, h2, h3⟩; exact ⟨h1, by cases hb : Nat.beq x.1 p with | false => rfl | true => exact absurd (Nat.eq_of_beq_eq_true hb) h2, h3⟩
  have hAsub : ((linA (masks ops.toList) p L).map (·.1)).Sublist (L.map (·.1)) := List.Sublist.map _ (List.filter_sublist ..)
  have hBsub : ((linB (masks ops.toList) p L).map (·.1)).Sublist (L.map (·.1)) := List.Sublist.map _ (List.filter_sublist ..)
  have hnd : ((linA (masks ops.toList) p L).map (·.1) ++ (linB (masks ops.toList) p L).map (·.1)).Nodup := by
    refine List.nodup_append.2 ⟨hLn.sublist hAsub, hLn.sublist hBsub, fun i hi j hj e => ?_⟩
    obtain ⟨x, hx, rfl⟩ := List.mem_map.1 hi
    obtain ⟨y, hy, rfl⟩ := List.mem_map.1 hj
    have h1 := ((hAx x).1 hx).2.2
    rw [e, ((hBx y).1 hy).2.2] at h1; cases h1
  obtain ⟨st1, ra, k1, k2, k3, k4, k5, k6⟩ := opsL_seq (ops := ops) _ _ _ hk
  clear hk
  rw [List.nil_append] at k1
  have k1 := cond_some k1
  obtain ⟨hchk, k1⟩ := k1
  rw [Bool.and_eq_true] at hchk
  obtain ⟨hpA, hfA⟩ := pairs_of hchk.1
  rw [k2] at hpA
  have hssa := ssaG_spec (linA (masks ops.toList) p L) (fun x hx => (hLm x ((hAx x).1 hx).1).1) hss
  split at k1
  · rename_i op hop0
    rw [Array.getElem?_toList] at hop0
    split at k1
    · rename_i g args hent
      have k1 := cond_some k1
      obtain ⟨hdg, k1⟩ := k1
      rw [Bool.and_eq_true] at hdg
      have hpg : op.guard = none := Option.isNone_iff_eq_none.1 hdg.2
      have hdp : ∀ d, op.dst = some d → d < st.n := fun d hd => by
        have := hdg.1
        rw [hd] at this
        rw [show st.n = st1.n from k3.symm]
        exact Nat.le_of_ble_eq_true (show Nat.ble (d + 1) st1.n = true from this)
      rw [opv_eq] at hent
      have hseq := k6 (fun i => st.heap.length + makers F (ops.toList.take i)) (rcAt ra) (fun x hx => hLm x ((hAx x).1 hx).1) hfA
      have hdstA : ∀ (i : Nat) (o : Oper) (d : Tmp), i ∈ (linA (masks ops.toList) p L).map (·.1) → ops[i]? = some o → o.dst = some d → d < st.n := fun i o d hi ho hd => by
        obtain ⟨x, hx, rfl⟩ := List.mem_map.1 hi
        obtain rfl := Option.some.inj ((hLm x ((hAx x).1 hx).1).1.symm.trans ho)
        exact (k5 x hx).2 d hd
      have hflo : ∀ k ∈ (linA (masks ops.toList) p L).map (·.1), bef (masks ops.toList) k p = false → (rcAt ra k).2 = [] ∧ ∀ ok, ops[k]? = some ok → ok.apart ops op = true := fun k hk hb => by
        rw [← k2] at hk
        obtain ⟨y, hy, rfl⟩ := List.mem_map.1 hk
        have := List.all_eq_true.1 hchk.2 y hy
        rw [hb, Bool.false_or, Bool.and_eq_true] at this
        refine ⟨by rw [hfA y hy]; exact List.isEmpty_iff.1 this.1, fun ok hok => ?_⟩
        have h2 := this.2
        simpa [apartI, hok, hop0] using h2
      have main := any_flo (B := (linB (masks ops.toList) p L).map (·.1)) hT hF hG hC (Q := Q) (n := st.n) (v0 := st.v0) hop0 hpg hp hn hedge hstop hent k1 hdp
        (fun i hi => by
          obtain ⟨x, hx, rfl⟩ := List.mem_map.1 hi
          exact ⟨hLq x ((hAx x).1 hx).1, ((hAx x).1 hx).2.1⟩)
        (fun i hi => by
          obtain ⟨x, hx, rfl⟩ := List.mem_map.1 hi
          exact ⟨hLq x ((hBx x).1 hx).1, ((hBx x).1 hx).2⟩)
        (fun i h1 h2 => by
          obtain ⟨x, hx, rfl⟩ := hLi i h1
          cases hb : bef (masks ops.toList) p x.1 with
          | false => exact .inl (List.mem_map.2 ⟨x, (hAx x).2 ⟨hx, h2, hb⟩, rfl⟩)
          | true => exact .inr (List.mem_map.2 ⟨x, (hBx x).2 ⟨hx, h2, hb⟩, rfl⟩))
        hnd hssa.1 hssa.2 hflo hpA
        hdstA
        (fun v h' hv => ?_) ((linA (masks ops.toList) p L).map (·.1)).length ((linA (masks ops.toList) p L).map (·.1)) (Array.replicate ops.size false) _ _ a _ (by simp) rfl (List.Sublist.refl _) (fun i hi => ⟨fun _ => by simp [Array.getD_eq_getD_getElem?, Array.getElem?_replicate]; split <;> rfl, fun _ => hi⟩)
        (fun i hi => by simp [Array.getD_eq_getD_getElem?, Array.getElem?_replicate]; split <;> rfl) (by simp [Array.getD_eq_getD_getElem?, Array.getElem?_replicate]; split <;> rfl) (fun i o ho hl => by simp [Array.getD_eq_getD_getElem?, Array.getElem?_replicate] at hl; split at hl <;> simp at hl)
        (fun i _ _ => by simp [Array.getD_eq_getD_getElem?, Array.getElem?_replicate]; split <;> rfl) hseq hdraw
      · have hlen : ((linA (masks ops.toList) p L).map (·.1)).length + 1 + ((linB (masks ops.toList) p L).map (·.1)).length + (ops.size - q) = ops.size := by
          have h3 := three_parts (ms := masks ops.toList) (p := p) L
          rw [one_of (L.map (·.1)) hLn (by rw [hLf]; exact List.mem_range'_1.2 ⟨by omega, by omega⟩)] at h3
          have h4 := congrArg List.length hLf
          rw [List.length_map, List.length_range'] at h4
          simp only [List.length_map]
          omega
        rwa [hlen] at main
      · obtain ⟨h1, h2⟩ := opsC_spec _ hv
        obtain ⟨st2, rb, j1, j2, j3, j4, j5, j6⟩ := opsL_seq (ops := ops) _ _ _ h1
        have j1 := cond_some j1
        obtain ⟨hpr, j1⟩ := j1
        obtain ⟨hpAB, hfAB⟩ := pairs_of hpr
        rw [List.map_append, k2, j2] at hpAB
        have en : (st1.put op.dst v h').n = st.n := by rw [← show st1.n = st.n from k3]; cases op.dst <;> rfl
        have ev0 : (st1.put op.dst v h').v0 = st.v0 := by rw [← show st1.v0 = st.v0 from k4]; cases op.dst <;> rfl
        have eh : (st1.put op.dst v h').heap = h' := by cases op.dst <;> rfl
        have hsB := j6 (fun i => st.heap.length + makers F (ops.toList.take i)) (rcAt (ra ++ rb)) (fun x hx => hLm x ((hBx x).1 hx).1) (fun y hy => hfAB y (List.mem_append_right _ hy))
        rw [look_put, eh] at hsB
        refine ⟨rcAt (ra ++ rb), look st2.env, st2.heap, fun k hk => (rcAt_left (by rw [k2]; exact hk)).symm, fun k hk hb => ?_, hsB, hpAB, fun i o d hi ho hd => ?_, fun a' w' hE => ?_⟩
        · obtain ⟨x, hx, rfl⟩ := List.mem_map.1 hk
          obtain ⟨d, hd, hl⟩ := h2 x (List.mem_filter.2 ⟨hx, by rw [hb]; rfl⟩)
          rw [opv_eq] at hl
          obtain ⟨e1, e2⟩ := hLm x ((hAx x).1 hx).1
          refine ⟨x.2.2, d, e1, hd, (k5 x hx).1, ?_⟩
          refine Eq.trans (congrArg (fun z => locK T F x.2.2.op (opE T (look st1.env)) h' z fun v u => some (v, u)) e2) ?_
          exact hl
        · obtain ⟨x, hx, rfl⟩ := List.mem_map.1 hi
          obtain rfl := Option.some.inj ((hLm x ((hBx x).1 hx).1).1.symm.trans ho)
          rw [← en]
          exact (j5 x hx).2 d hd
        · exact drive (nid0 := st.heap.length) (n := st.n) (v0 := st.v0) hT hF hG hC hs (Q := Q) (fun st' a w hK en ev hE => by
            obtain ⟨ρ', e1, e2, e3, e4, e5, e6, e7, e8, e9⟩ := hE
            exact hq st' a w hK ⟨ρ', e1, e2, by rw [en]; exact e3, e4, e5, e6, e7, by rw [ev]; exact e8, e9⟩) (ops.size - q) q st2 a' w' rfl hn (j3.trans en) (j4.trans ev0) j1 hE
    · simp at k1
  · simp at k1
end
end Go.Proofs.YtibdnfknokkadaaDoor.Ev
