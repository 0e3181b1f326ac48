/- The evaluator's loads, parts and stores are the model's. -/
import Derived.Test.YtibdnfknokkadaaDoorEvMem
import Derived.WalkKit
set_option linter.unusedVariables false
set_option linter.unusedSimpArgs false
namespace Go.Proofs.YtibdnfknokkadaaDoor.Ev
open Go Go.RowKit
variable {X : Nat → Prop}

theorem gather {α β : Type} (p : Nat → α → β → Prop) : ∀ (cs : List α) (k : Nat), (∀ j c, cs[j]? = some c → ∃ u, p (k + j) c u) → ∃ us : List β, us.length = cs.length ∧ ∀ j c u, cs[j]? = some c → us[j]? = some u → p (k + j) c u
  | [], _, _ => ⟨[], rfl, by simp⟩
  | c :: r, k, h => by
    obtain ⟨u, hu⟩ := h 0 c rfl
    obtain ⟨us, hl, hus⟩ := gather p r (k + 1) (fun j c hc => by have := h (j + 1) c (by simpa using hc); rwa [show k + 1 + j = k + (j + 1) by omega])
    refine ⟨u :: us, by simp [hl], fun j c' u' hc hu' => ?_⟩
    cases j with
    | zero => simp at hc hu'; subst hc; subst hu'; exact hu
    | succ j => simp at hc hu'; rw [show k + (j + 1) = k + 1 + j by omega]; exact hus j c' u' hc hu'

def AtR (X : Nat → Prop) (w : World) (ρ : Rho) (h : List HE) (ad : Addr) (cs : List AV) : Prop := ∀ (j : Nat) (c : AV), cs[j]? = some c → ∃ u, w.cell? (ad.add j) = some u ∧ VR X w ρ h c u
theorem cell_at {w : World} {n : Nat} {cur : Array Value} {ty : TypeId} {fz : Nat × Nat} (h : w.heap[n]? = some (.cells cur ty fz)) (o : Nat) : w.cell? ⟨n, o, none⟩ = cur[o]? := by simp [World.cell?, h]

section
variable {R : Type} {w : World} {ρ : Rho} {base : Nat} {h : List HE} {P : Program} {T : Tab}
theorem behind_sound (hh : HeapR X w ρ base h) {p : AV} {pv : Value} {K : List AV → Option R} {r : R} (hv : VR X w ρ h p pv) (hk : behindK h p K = some r) :
    ∃ cs ad, K cs = some r ∧ pv = .pointer (some ad) ∧ AtR X w ρ h ad cs := by
  cases hv with
  | @ptr i b off hr =>
    simp only [behindK] at hk
    split at hk
    · rename_i cs hi
      obtain ⟨r', hr', hher⟩ := hh.ent _ _ hi
      obtain rfl := Option.some.inj (hr.symm.trans hr')
      cases hher with
      | @blk _ _ cur ty hb hl hc =>
        refine ⟨_, _, hk, rfl, fun j c hj => ?_⟩
        rw [List.getElem?_drop] at hj
        have hlt : off + j < cur.size := by rw [hl]; exact (List.getElem?_eq_some_iff.1 hj).1
        refine ⟨cur[off + j], ?_, hc _ c _ hj (by simp [hlt])⟩
        rw [add_plain, cell_at hb]; simp [hlt]
    · simp at hk
  | @eptr i g sz k off ad he hg ha =>
    simp only [behindK] at hk
    split at hk
    · rename_i t e nl g' l hi
      have h2 := cond_some hk
      clear hk
      obtain ⟨hc, hk⟩ := h2
      rw [Bool.and_eq_true] at hc
      obtain rfl := Nat.eq_of_beq_eq_true hc.1
      obtain rfl := Nat.eq_of_beq_eq_true hc.2
      obtain ⟨x, hx, hk⟩ := optb_some hk
      obtain ⟨r', hr', hher⟩ := hh.ent _ _ hi
      obtain ⟨b, n, cap, hr, rfl⟩ := ha _ _ _ _ hi
      obtain rfl := Option.some.inj (hr.symm.trans hr')
      cases hher with
      | @lst _ _ _ _ _ _ xs hg1 ho hn hel =>
        refine ⟨_, _, hk, rfl, fun j c hj => ?_⟩
        have hrs := RC_cells (hh := h) t x _ (hel k x hx)
        rw [List.getElem?_drop] at hj
        obtain ⟨u, hu, hv⟩ := hrs.at_ hj
        refine ⟨u, ?_, hv⟩
        rw [add_plain]
        have hu' : xs[k * t.size + (off + j)]? = some u := by
          rw [List.getElem?_take] at hu
          split at hu
          · rw [List.getElem?_drop] at hu; exact hu
          · simp at hu
        rcases ho with ⟨_, rfl, _⟩ | ⟨b', c', cur, ty, fz, he, ho⟩
        · simp at hu'
        · simp only [Value.slice.injEq, Option.some.injEq, Addr.mk.injEq, and_true] at he
          obtain ⟨rfl, _⟩ := he
          have := ho.cells _ u hu'
          rw [add_plain] at this
          rw [← this]; congr 2; omega
    · simp at hk
  | @ro t x off ad c hO hb hc hr =>
    simp only [behindK] at hk
    refine ⟨_, _, hk, rfl, fun j a hj => ?_⟩
    rw [List.getElem?_drop] at hj
    obtain ⟨u, hu, hv⟩ := (RC_cells (hh := h) t x c hr).at_ hj
    exact ⟨u, hc j u hu, hv⟩
  | _ => simp [behindK] at hk

theorem run_isAgg (hT : TabOK P T) {t : TypeId} {i : Inf} (ht : T t = some i) : (isAgg t).run P w = .ok (isAggD i.desc) w := by
  simp only [isAgg, Sem.run_bind, run_underlying (hT.und t i ht), Result.andThen_ok]
  cases i.desc <;> rfl
theorem run_sizeOf (hT : TabOK P T) {t : TypeId} {i : Inf} (ht : T t = some i) : (sizeOf t).run P w = .ok i.size w := by
  obtain ⟨j, hj, hs, _⟩ := hT.info t i ht
  simp [sizeOf, typeInfo, hj, hs]
theorem run_zeroValue (hT : TabOK P T) {t : TypeId} {i : Inf} (ht : T t = some i) : (zeroValue t).run P w = .ok i.zero w := by
  obtain ⟨j, hj, hs, hb, hz⟩ := hT.info t i ht
  simp [zeroValue, typeInfo, hj, hz]
theorem part_load (hT : TabOK P T) {t : TypeId} {i : Inf} (ht : T t = some i) {cs : List AV} {ad : Addr} (hc : AtR X w ρ h ad cs) {K : AV → Option R} {r : R} (hk : partK i cs K = some r) :
    ∃ av v, K av = some r ∧ (loadVar t ad).run P w = .ok v w ∧ VR X w ρ h av v := by
  unfold partK at hk
  cases hd : isAggD i.desc with
  | true =>
    rw [hd] at hk
    simp only [cond_true] at hk
    obtain ⟨hle, hk⟩ := cond_some hk
    have hle := Nat.le_of_ble_eq_true hle
    obtain ⟨us, hl, hus⟩ := gather (fun j c u => w.cell? (ad.add j) = some u ∧ VR X w ρ h c u) (cs.take i.size) 0 (fun j c hj => by
      rw [Nat.zero_add]
      rw [List.getElem?_take] at hj
      split at hj
      · exact hc j c hj
      · simp at hj)
    have hlen : us.length = i.size := by rw [hl, List.length_take]; omega
    have hcell : ∀ j v, us[j]? = some v → w.cell? (ad.add j) = some v := fun j v hv => by
      have hj : j < (cs.take i.size).length := by rw [← hl]; exact (List.getElem?_eq_some_iff.1 hv).1
      have := (hus j _ v (List.getElem?_eq_getElem hj) hv).1
      rwa [Nat.zero_add] at this
    refine ⟨_, .agg us.toArray, hk, ?_, .agg (by simp [hl]) (fun j c v hj hv => ?_)⟩
    · simp only [loadVar, Sem.run_bind, run_isAgg hT ht, Result.andThen_ok, hd, if_true, run_sizeOf hT ht]
      rw [← hlen, run_loadCells_list (P := P) w ad us hcell]
      rfl
    · have := hus j c v hj (by simpa using hv)
      exact this.2
  | false =>
    rw [hd] at hk
    simp only [cond_false] at hk
    cases cs with
    | nil => simp at hk
    | cons c cs =>
      obtain ⟨u, hu, hv⟩ := hc 0 c rfl
      have hu' : w.cell? ad = some u := by simpa [Addr.add] using hu
      refine ⟨c, u, hk, ?_, hv⟩
      simp [loadVar, run_isAgg hT ht, hd, hu']
theorem part_of (hT : TabOK P T) {t : TypeId} {i : Inf} (ht : T t = some i) {cs : List AV} {vs : Array Value} (hl : cs.length = vs.size) (hh : ∀ (i : Nat) (c : AV) (v : Value), cs[i]? = some c → vs[i]? = some v → VR X w ρ h c v)
    {off : Nat} {K : AV → Option R} {r : R} (hk : partK i (cs.drop off) K = some r) : ∃ av v, K av = some r ∧ (part t vs off).run P w = .ok v w ∧ VR X w ρ h av v := by
  unfold partK at hk
  cases hd : isAggD i.desc with
  | true =>
    rw [hd] at hk
    simp only [cond_true] at hk
    obtain ⟨hle, hk⟩ := cond_some hk
    have hle := Nat.le_of_ble_eq_true hle
    rw [List.length_drop] at hle
    refine ⟨_, .agg (vs.extract off (off + i.size)), hk, ?_, .agg ?_ (fun j c v hj hv => ?_)⟩
    · simp [part, run_isAgg hT ht, hd, run_sizeOf hT ht]
    · simp only [List.length_take, List.length_drop, Array.size_extract]; omega
    · rw [List.getElem?_take] at hj
      split at hj
      · rw [List.getElem?_drop] at hj
        rw [Array.getElem?_extract] at hv
        split at hv
        · exact hh _ c v hj hv
        · simp at hv
      · simp at hj
  | false =>
    rw [hd] at hk
    simp only [cond_false] at hk
    cases hcs : cs.drop off with
    | nil => rw [hcs] at hk; simp at hk
    | cons c rest =>
      rw [hcs] at hk
      have hc : cs[off]? = some c := by
        have : (cs.drop off)[0]? = some c := by rw [hcs]; rfl
        rw [List.getElem?_drop] at this; simpa using this
      have hlt : off < vs.size := by rw [← hl]; exact (List.getElem?_eq_some_iff.1 hc).1
      refine ⟨c, vs[off], hk, ?_, hh off c _ hc (by simp [hlt])⟩
      simp [part, run_isAgg hT ht, hd, hlt]

theorem flat_sound {c : AV} {v : Value} (ho : allOK c.flat = true) (hv : VR X w ρ h c v) : VRs X w ρ h c.flat v.cells.toList ∧ ∀ u ∈ v.cells.toList, u.oneCell' = true := by
  have one : ∀ {c : AV} {v : Value}, cellOK c = true → VR X w ρ h c v → VRs X w ρ h [c] v.cells.toList ∧ ∀ u ∈ v.cells.toList, u.oneCell' = true := fun {c v} hc hv => by
    obtain ⟨h1, h2⟩ := cell_one hc hv
    rw [h2]
    exact ⟨.cons hv (.nil _ _ _), fun u hu => by simp at hu; subst hu; exact h1⟩
  have hsome : ∀ c : AV, allOK [c] = true → cellOK c = true := fun c hc => allOK_mem hc c (by simp)
  cases hv with
  | @agg cs vs hl hh =>
    simp only [AV.flat] at ho ⊢
    refine ⟨⟨by simpa [Value.cells] using hl, fun i c v hc hv => hh i c v hc (by simpa [Value.cells] using hv)⟩, fun u hu => ?_⟩
    simp only [Value.cells] at hu
    obtain ⟨i, hi⟩ := List.mem_iff_getElem?.1 hu
    have hlt : i < cs.length := by rw [hl]; exact (by simpa using (List.getElem?_eq_some_iff.1 hi).1)
    exact (cell_one (allOK_mem ho _ (List.getElem_mem hlt)) (hh i _ u (List.getElem?_eq_getElem hlt) (by simpa using hi))).1
  | lit v => exact one (hsome _ ho) (.lit v)
  | junk v => simp [AV.flat, allOK, cellOK] at ho
  | int k n => exact one rfl (.int k n)
  | bool b => exact one rfl (.bool b)
  | str s => exact one rfl (.str s)
  | nils => exact one rfl .nils
  | sl hr => exact one rfl (.sl hr)
  | slz hz => exact one rfl (.slz hz)
  | own a b c d => exact one rfl (.own a b c d)
  | ptr hr => exact one rfl (.ptr hr)
  | mpv hr => exact one rfl (.mpv hr)
  | bs hr => exact one rfl (.bs hr)
  | eptr a b c => exact one rfl (.eptr a b c)
  | ro a b c d => exact one rfl (.ro a b c d)
  | tup hl hh => simp [AV.flat, allOK, cellOK] at ho
  | fn a b c d => exact one rfl (.fn a b c d)
  | vw a b c => simp [AV.flat, allOK, cellOK] at ho

theorem ofCell_sound (v : Value) : VR X w ρ h (ofCell v) v := by
  unfold ofCell
  split <;> first | exact .int _ _ | exact .bool _ | exact .str _ | exact .nils | exact .junk _ | exact .lit _
theorem ofVal_sound (v : Value) : VR X w ρ h (ofVal v) v := by
  unfold ofVal
  split
  · refine .agg (by simp) (fun i c v hc hv => ?_)
    obtain ⟨x, hx, rfl⟩ := map_at hc
    have : x = v := by
      have hx' := hx
      rw [Array.getElem?_toList] at hx'
      exact Option.some.inj (hx'.symm.trans hv)
    subst this
    exact ofCell_sound x
  · exact ofCell_sound _
theorem ofVal_flat (v : Value) : VRs X w ρ h (ofVal v).flat v.cells.toList := by
  have := ofVal_sound (X := X) (w := w) (ρ := ρ) (h := h) v
  cases v with
  | agg cs =>
    simp only [ofVal, AV.flat, Value.cells]
    exact ⟨by simp, fun i c u hc hu => by
      obtain ⟨x, hx, rfl⟩ := map_at hc
      obtain rfl := Option.some.inj (hx.symm.trans hu)
      exact ofCell_sound x⟩
  | slice a n c => 
    have e : (ofVal (.slice a n c)).flat = [ofVal (.slice a n c)] := by
      have : ofVal (.slice a n c) = .nils ∨ ofVal (.slice a n c) = .junk := by
        cases a with
        | some a => exact .inr rfl
        | none =>
          cases n with
          | succ n => exact .inr rfl
          | zero => cases c with
            | zero => exact .inl rfl
            | succ c => exact .inr rfl
      rcases this with e | e <;> rw [e] <;> rfl
    rw [e]; exact .cons this (.nil _ _ _)
  | _ => exact .cons this (.nil _ _ _)

theorem allOK_append {a b : List AV} (ho : allOK (a ++ b) = true) : allOK a = true ∧ allOK b = true := by
  induction a with
  | nil => exact ⟨rfl, ho⟩
  | cons c a ih =>
    simp only [List.cons_append, allOK] at ho ⊢
    cases hc : cellOK c with
    | false => rw [hc] at ho; simp at ho
    | true => rw [hc] at ho; exact ih ho
/-! What is held after a change. -/
structure Done (X : Nat → Prop) (base : Nat) (w : World) (ρ : Rho) (h : List HE) (v : Value) (w' : World) (av : AV) (h' : List HE) : Prop where mk ::
  out : ∃ ρ', HeapR X w' ρ' base h' ∧ VR X w' ρ' h' av v ∧ Fwd X w ρ h w' ρ' h' ∧ Below base w w'
theorem Done.same (hh : HeapR X w ρ base h) {av : AV} {v : Value} (hv : VR X w ρ h av v) : Done X base w ρ h v w av h := ⟨ρ, hh, hv, .refl _ _ _, Below.refl _ _⟩

end

end Go.Proofs.YtibdnfknokkadaaDoor.Ev
