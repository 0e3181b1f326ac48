/- Arguments of a row as plain data: lemmas, no program in sight. -/
import Derived.Test.YtibdnfknokkadaaDoorEvShape
import Derived.SizedLaws
import Derived.ChangeSlices
import Derived.ChangeSame
import Derived.OpenShut
import Derived.ShutString
import Derived.ChangeOld
import Derived.WalkKit
import Derived.ProofKit
import Derived.Carry
import Derived.Deep.Slices
import Derived.Below
set_option linter.unusedVariables false
namespace Go.Proofs.YtibdnfknokkadaaDoor.Ev
open Go Go.RowKit Go.ChangeShapes Go.WideShapes Go.Deep

/-- What holds of data that came in. -/
def Ty.wf : (t : Ty) → t.den → Prop
  | .int k, n => (Lit.int k n).wf = true
  | .bool, _ => True
  | .str, s => s.size ≤ 140737488351232
  | .sl t, x => (x.1 = true → x.2 = []) ∧ x.2.length ≤ 140737488351232 ∧ ∀ a ∈ x.2, t.wf a
  | .pair a b, x => a.wf x.1 ∧ b.wf x.2
abbrev NoO : Nat → Prop := fun _ => False

structure Opn (P : Program) (t : TypeId) (τ : Ty) : Prop where
  len : τ.size = P.cellsOf t
  out : ∀ {H : Type} {enc : TypeId × Value → H} {w : World} {fuel : Nat} {cs : List Value} {x : DataW H × List MemPlace},
    DataW.trod enc P w 0 (fun _ => true) true fuel t cs = some x → (∀ n ∈ x.1.weights P t, n ≤ reachBytes) → ∃ a, RC NoO w τ a cs ∧ τ.wf a

theorem opn_int {P : Program} {t : TypeId} {k : IntKind} (ht : P.underlying t = some (.int k)) (hl : P.cellsOf t = 1) : Opn P t (.int k) where
  len := hl.symm
  out := by
    intro H enc w fuel cs x h _
    cases fuel with
    | zero => simp [DataW.trod] at h
    | succ f =>
      unfold DataW.trod at h
      rw [ht] at h
      split at h <;> simp_all
      obtain ⟨⟨rfl, hw⟩, _⟩ := h
      rename_i n _ hk _
      subst hk
      exact ⟨n, by simp only [RC], hw⟩
theorem opn_bool {P : Program} {t : TypeId} (ht : P.underlying t = some .bool) (hl : P.cellsOf t = 1) : Opn P t .bool where
  len := hl.symm
  out := by
    intro H enc w fuel cs x h _
    cases fuel with
    | zero => simp [DataW.trod] at h
    | succ f =>
      unfold DataW.trod at h
      rw [ht] at h
      split at h <;> simp_all
      rename_i b
      cases b
      · exact .inl ⟨rfl, trivial⟩
      · exact .inr ⟨rfl, trivial⟩
theorem opn_string {P : Program} {t : TypeId} (ht : P.underlying t = some .string) (hl : P.cellsOf t = 1) : Opn P t .str where
  len := hl.symm
  out := by
    intro H enc w fuel cs x h hs
    cases fuel with
    | zero => simp [DataW.trod] at h
    | succ f =>
      unfold DataW.trod at h
      rw [ht] at h
      split at h <;> simp_all
      obtain ⟨h1, rfl⟩ := h
      refine ⟨_, rfl, ?_⟩
      have := hs
      simp [DataW.weights, reachBytes] at this
      exact this
theorem weightsAll_mem {H : Type} {P : Program} {e : TypeId} {d : DataW H} : ∀ {l : List (DataW H)}, d ∈ l → ∀ n ∈ d.weights P e, n ∈ DataW.weightsAll P e l
  | y :: l, hd, n, hn => by
    rcases List.mem_cons.1 hd with rfl | hd
    · simp only [DataW.weightsAll, List.mem_append]; exact .inl hn
    · simp only [DataW.weightsAll, List.mem_append]; exact .inr (weightsAll_mem hd n hn)
  | [], hd, _, _ => by simp at hd
theorem choose_list {α : Type} (p : Nat → α → Prop) : ∀ (n : Nat), (∀ i, i < n → ∃ a, p i a) → ∃ l : List α, l.length = n ∧ ∀ i a, l[i]? = some a → p i a
  | 0, _ => ⟨[], rfl, by simp⟩
  | n + 1, h => by
    obtain ⟨l, hl, hp⟩ := choose_list p n (fun i hi => h i (by omega))
    obtain ⟨a, ha⟩ := h n (by omega)
    refine ⟨l ++ [a], by simp [hl], ?_⟩
    intro i b hb
    rcases Nat.lt_or_ge i l.length with hi | hi
    · rw [List.getElem?_append_left hi] at hb; exact hp i b hb
    · have : i = n := by
        have := (List.getElem?_eq_some_iff.1 hb).1
        simp at this; omega
      subst this
      rw [List.getElem?_append_right hi, hl] at hb
      simp at hb; subst hb; exact ha
theorem cells_some_at {w : World} {base : Nat} {a : Addr} {n : Nat} {c : List Value} (h : w.cells? base a n = some c) : c.length = n ∧ ∀ i u, c[i]? = some u → w.cell? (a.add i) = some u := by
  obtain ⟨_, hcl, hat⟩ := World.cells?_some h
  refine ⟨hcl, fun i u hu => ?_⟩
  have hi : i < n := by rw [← hcl]; exact (List.getElem?_eq_some_iff.1 hu).1
  rw [hat i hi, hu]
theorem opn_slice {P : Program} {t e : TypeId} {τ : Ty} (he : Opn P e τ) (ht : P.underlying t = some (.slice e)) (hl : P.cellsOf t = 1) (hB : 1 ≤ P.bytesOf e) : Opn P t (.sl τ) where
  len := hl.symm
  out := by
    intro H enc w fuel cs x h hs
    rcases open_slice ht h with ⟨rfl, rfl⟩ | ⟨a, len, cap, m, n, D, Pl, rfl, hb, hlc, hcap, hm, hx, hi⟩
    · exact ⟨(true, []), ⟨none, 0, rfl, rfl, Nat.le_refl _, fun _ => rfl, fun i y hy => by simp at hy⟩, fun _ => rfl, by simp, by simp⟩
    · obtain rfl : m = cap := by simpa using hm
      subst hx
      have hw : ∀ i, i < len → ∀ n ∈ (D i).weights P e, n ≤ reachBytes := by
        intro i hi' n hn
        refine hs n ?_
        simp only [DataW.weights, ht, List.mem_cons, List.mem_append]
        exact .inr (.inl (weightsAll_mem (List.mem_map.2 ⟨i, by simpa using hi', rfl⟩) n hn))
      obtain ⟨l, hll, hp⟩ := choose_list (fun i v => ∃ c, w.cells? 0 (a.add (i * P.cellsOf e)) (P.cellsOf e) = some c ∧ RC NoO w τ v c ∧ τ.wf v) len (by
        intro i hi'
        obtain ⟨c, hc, htr⟩ := hi i (by omega)
        obtain ⟨v, hk, hwf⟩ := he.out htr (hw i hi')
        exact ⟨v, c, hc, hk, hwf⟩)
      refine ⟨(false, l), ⟨some a, m, by rw [hll], rfl, by rw [hll]; exact hlc, fun h => (by cases h), fun i y hy => ?_⟩, ⟨fun h => (by cases h), ?_, ?_⟩⟩
      · obtain ⟨c, hc, hk, _⟩ := hp i y hy
        obtain ⟨h1, h2⟩ := cells_some_at hc
        refine ⟨a, c, rfl, fun h => h, fun j v hv => ?_, hk⟩
        have := h2 j v hv
        rw [Go.Deep.add_add] at this
        rw [he.len]; exact this
      · have := hs ((len + (m - len)) * P.bytesOf e) (by simp [DataW.weights, ht])
        show l.length ≤ _
        rw [hll]
        have h2 : len * 1 ≤ (len + (m - len)) * P.bytesOf e := Nat.mul_le_mul (by omega) hB
        have h3 : reachBytes = 140737488351232 := rfl
        omega
      · intro v hv
        obtain ⟨i, hi'⟩ := List.mem_iff_getElem?.1 hv
        obtain ⟨_, _, _, h⟩ := hp i v hi'
        exact h
/-- Fields from one on, in line. -/
def OpnF (P : Program) (fs : List Field) (off : Nat) (τ : Ty) : Prop :=
  ∀ {H : Type} {enc : TypeId × Value → H} {w : World} {fuel : Nat} (cs : List Value) (ys : List (DataW H × List MemPlace)), ys.length = fs.length →
    (∀ (j : Nat) (f : Field), fs[j]? = some f → DataW.trod enc P w 0 (fun _ => true) true fuel f.type ((cs.drop f.offset).take (P.cellsOf f.type)) = ys[j]?) →
    (∀ n ∈ DataW.weightsEach P (fs.map (·.type)) (ys.map (·.1)), n ≤ reachBytes) → cs.length = off + τ.size → ∃ a, RC NoO w τ a (cs.drop off) ∧ τ.wf a
theorem opnF_one {P : Program} {f : Field} {off : Nat} {τ : Ty} (h : Opn P f.type τ) (ho : f.offset = off) : OpnF P [f] off τ := by
  intro H enc w fuel cs ys hys ht hs hl
  match ys, hys with
  | [y], _ =>
    have h1 := ht 0 f rfl
    have e : (cs.drop f.offset).take (P.cellsOf f.type) = cs.drop off := by
      rw [ho, List.take_of_length_le]; rw [List.length_drop, hl, ← h.len]; omega
    rw [e] at h1
    exact h.out h1 (fun n hn => hs n (by simp only [List.map, DataW.weightsEach, List.mem_append]; exact .inl hn))
theorem opnF_cons {P : Program} {f : Field} {fs : List Field} {off : Nat} {d d' : Ty} (h : Opn P f.type d) (ho : f.offset = off) (h' : OpnF P fs (off + d.size) d') : OpnF P (f :: fs) off (.pair d d') := by
  intro H enc w fuel cs ys hys ht hs hl
  match ys, hys with
  | y :: ys, hys =>
    have h1 := ht 0 f rfl
    have e : (cs.drop f.offset).take (P.cellsOf f.type) = (cs.drop off).take d.size := by rw [ho, h.len]
    rw [e] at h1
    obtain ⟨a, ha, hwa⟩ := h.out h1 (fun n hn => hs n (by simp only [List.map, DataW.weightsEach, List.mem_append]; exact .inl hn))
    obtain ⟨b, hb, hwb⟩ := h' cs ys (by simpa using hys) (fun j g hg => ht (j + 1) g hg) (fun n hn => hs n (by simp only [List.map, DataW.weightsEach, List.mem_append]; exact .inr hn)) (by rw [hl]; show off + (d.size + d'.size) = _; omega)
    refine ⟨(a, b), ⟨_, _, ?_, ha, hb⟩, hwa, hwb⟩
    rw [← List.drop_drop, List.take_append_drop]
theorem opn_struct {P : Program} {t : TypeId} {fs : Array Field} {τ : Ty} (ht : P.underlying t = some (.struct fs)) (hl : τ.size = P.cellsOf t) (h : OpnF P fs.toList 0 τ) : Opn P t τ where
  len := hl
  out := by
    intro H enc w fuel cs x hx hs
    obtain ⟨xs, n, _, rfl, hcl, hlen, hf⟩ := DataW.trod_struct ht hx
    obtain ⟨a, ha, hwa⟩ := h cs xs (by rw [hlen]; simp) (fun j f hj => hf j f (by simpa using hj)) (fun n hn => hs n (by simp only [DataW.weights, ht]; exact hn)) (by rw [hcl, hl]; omega)
    exact ⟨a, by simpa using ha, hwa⟩
/-- Elements of an array from one on, in line. -/
def OpnA (P : Program) (e : TypeId) (off n : Nat) (τ : Ty) : Prop :=
  ∀ {H : Type} {enc : TypeId × Value → H} {w : World} {fuel : Nat} (cs : List Value) (ys : List (DataW H × List MemPlace)), ys.length = n →
    (∀ (j : Nat), j < n → DataW.trod enc P w 0 (fun _ => true) true fuel e ((cs.drop ((off + j) * P.cellsOf e)).take (P.cellsOf e)) = ys[j]?) →
    (∀ m ∈ DataW.weightsAll P e (ys.map (·.1)), m ≤ reachBytes) → cs.length = off * P.cellsOf e + τ.size → ∃ a, RC NoO w τ a (cs.drop (off * P.cellsOf e)) ∧ τ.wf a
theorem opnA_one {P : Program} {e : TypeId} {off : Nat} {d : Ty} (h : Opn P e d) : OpnA P e off 1 d := by
  intro H enc w fuel cs ys hys ht hs hl
  match ys, hys with
  | [y], _ =>
    have h1 := ht 0 (by omega)
    have e1 : (cs.drop ((off + 0) * P.cellsOf e)).take (P.cellsOf e) = cs.drop (off * P.cellsOf e) := by
      rw [Nat.add_zero, List.take_of_length_le]; rw [List.length_drop, hl, ← h.len]; omega
    rw [e1] at h1
    exact h.out h1 (fun n hn => hs n (by simp only [List.map, DataW.weightsAll, List.mem_append]; exact .inl hn))
theorem opnA_cons {P : Program} {e : TypeId} {off n : Nat} {d d' : Ty} (h : Opn P e d) (h' : OpnA P e (off + 1) n d') : OpnA P e off (n + 1) (.pair d d') := by
  intro H enc w fuel cs ys hys ht hs hl
  match ys, hys with
  | y :: ys, hys =>
    have h1 := ht 0 (by omega)
    have e1 : (cs.drop ((off + 0) * P.cellsOf e)).take (P.cellsOf e) = (cs.drop (off * P.cellsOf e)).take d.size := by rw [Nat.add_zero, h.len]
    rw [e1] at h1
    have hp : (off + 1) * P.cellsOf e = off * P.cellsOf e + d.size := by rw [Nat.succ_mul, h.len]
    obtain ⟨a, ha, hwa⟩ := h.out h1 (fun n hn => hs n (by simp only [List.map, DataW.weightsAll, List.mem_append]; exact .inl hn))
    obtain ⟨b, hb, hwb⟩ := h' cs ys (by simpa using hys) (fun j hj => by have := ht (j + 1) (by omega); rw [show off + 1 + j = off + (j + 1) by omega]; exact this) (fun n hn => hs n (by simp only [List.map, DataW.weightsAll, List.mem_append]; exact .inr hn)) (by rw [hl, hp]; show _ + (d.size + d'.size) = _; omega)
    refine ⟨(a, b), ⟨_, _, ?_, ha, hb⟩, hwa, hwb⟩
    rw [hp, ← List.drop_drop, List.take_append_drop]
theorem opn_array {P : Program} {t e : TypeId} {n : Nat} {τ : Ty} (ht : P.underlying t = some (.array n e)) (hl : τ.size = P.cellsOf t) (h : OpnA P e 0 n τ) : Opn P t τ where
  len := hl
  out := by
    intro H enc w fuel cs x hx hs
    obtain ⟨xs, m, _, rfl, hcl, hlen, hf⟩ := DataW.trod_array ht hx
    obtain ⟨a, ha, hwa⟩ := h cs xs hlen (fun j hj => by rw [Nat.zero_add]; exact hf j hj) (fun n hn => hs n (by simp only [DataW.weights, ht]; exact hn)) (by rw [hcl, hl]; omega)
    exact ⟨a, by simpa using ha, hwa⟩
theorem okWide_array {P : Program} {w : World} {r : Reach} {base : Nat} {t e : TypeId} {n : Nat} {v : Value} (ht : P.underlying t = some (.array n e)) (h : Value.okWide P w r base t v) : ∃ cs, v = .agg cs ∧ cs.size = P.cellsOf t := by
  simp only [Value.okWide, ht] at h
  obtain ⟨cs, h1, h2, _⟩ := h
  exact ⟨cs, h1, h2⟩
section
variable {H : Type} {enc : TypeId × Value → H} {P : Program} {w : World} {ts : List TypeId} {ds : List (DataW H)} {j : Nat} {t : TypeId} {x : DataW H} {p : List MemPlace} {v : Value} {r : Reach} {b0 : Nat} {τ : Ty}
theorem light (hsz : (DataW.weightsEach P ts ds).all (· ≤ reachBytes) = true) (ht : ts[j]? = some t) (hd : ds[j]? = some x) : ∀ n ∈ x.weights P t, n ≤ reachBytes := fun n hn => by
  have := List.all_eq_true.1 hsz _ (DataW.weights_mem_each ht hd n hn)
  simpa using this
theorem open_struct_val {fs : Array Field} (hu : P.underlying t = some (.struct fs)) (h : Opn P t τ) (hv : Value.okWide P w r b0 t v) (hT : DataW.Trod enc P w 0 (fun _ => true) true t v x p) (hs : ∀ n ∈ x.weights P t, n ≤ reachBytes) :
    ∃ cs a, v = .agg cs ∧ RC NoO w τ a cs.toList ∧ τ.wf a := by
  obtain ⟨cs, rfl, _⟩ := okWide_struct hu hv
  obtain ⟨fuel, hf⟩ := hT
  obtain ⟨a, h1, h2⟩ := h.out hf hs
  exact ⟨cs, a, rfl, h1, h2⟩
theorem open_array_val {e : TypeId} {n : Nat} (hu : P.underlying t = some (.array n e)) (h : Opn P t τ) (hv : Value.okWide P w r b0 t v) (hT : DataW.Trod enc P w 0 (fun _ => true) true t v x p) (hs : ∀ n ∈ x.weights P t, n ≤ reachBytes) :
    ∃ cs a, v = .agg cs ∧ RC NoO w τ a cs.toList ∧ τ.wf a := by
  obtain ⟨cs, rfl, _⟩ := okWide_array hu hv
  obtain ⟨fuel, hf⟩ := hT
  obtain ⟨a, h1, h2⟩ := h.out hf hs
  exact ⟨cs, a, rfl, h1, h2⟩
/-- A value of one cell. -/
theorem open_cell_val (hc : v.cells.toList = [v]) (h : Opn P t τ) (hT : DataW.Trod enc P w 0 (fun _ => true) true t v x p) (hs : ∀ n ∈ x.weights P t, n ≤ reachBytes) : ∃ a, RC NoO w τ a [v] ∧ τ.wf a := by
  obtain ⟨fuel, hf⟩ := hT
  obtain ⟨a, h1, h2⟩ := h.out hf hs
  exact ⟨a, hc ▸ h1, h2⟩
theorem cell_slice {e : TypeId} (hu : P.underlying t = some (.slice e)) (hv : Value.okWide P w r b0 t v) : v.cells.toList = [v] := by
  obtain ⟨A, len, cap, rfl⟩ := okWide_slice hu hv; rfl
theorem cell_int {k : IntKind} (hu : P.underlying t = some (.int k)) (hv : Value.okWide P w r b0 t v) (hT : DataW.Trod enc P w 0 (fun _ => true) true t v x p) : v.cells.toList = [v] := by
  obtain ⟨a, rfl, _⟩ := open_int hu hv hT; rfl
theorem cell_bool (hu : P.underlying t = some .bool) (hv : Value.okWide P w r b0 t v) (hT : DataW.Trod enc P w 0 (fun _ => true) true t v x p) : v.cells.toList = [v] := by
  obtain ⟨a, rfl, _⟩ := open_bool hu hv hT; rfl
theorem cell_string (hu : P.underlying t = some .string) (hv : Value.okWide P w r b0 t v) (hT : DataW.Trod enc P w 0 (fun _ => true) true t v x p) : v.cells.toList = [v] := by
  obtain ⟨a, rfl, _⟩ := Go.ChangeMaps.open_string hu hv hT; rfl
theorem trod_places (hT : DataW.Trod enc P w 0 (fun _ => true) true t v x p) : ∀ y ∈ p, y.block < w.heap.size := by
  obtain ⟨m, hm⟩ := hT
  exact DataW.trod_lt m _ _ _ hm
end
/-- Arguments as plain data. -/
def ArgsOK (W : World) (ps : List (Bool × Nat)) (τ : Ty) (x : τ.den) (vs : List Value) : Prop := ∃ cells, RC NoO W τ x cells ∧ shapeV ps cells vs
section
variable {W : World} {τ τ' : Ty} {a : τ.den} {x : τ'.den} {v : Value} {vs : List Value} {cs : Array Value} {ps : List (Bool × Nat)} {n : Nat}
theorem args_cell1 (h : RC NoO W τ a [v]) : ArgsOK W [(false, n)] τ a [v] := ⟨[v], h, v, [], [], rfl, rfl, rfl, rfl⟩
theorem args_cell (h : RC NoO W τ a [v]) (hr : ArgsOK W ps τ' x vs) : ArgsOK W ((false, n) :: ps) (.pair τ τ') (a, x) (v :: vs) := by
  obtain ⟨cells, h1, h2⟩ := hr
  exact ⟨v :: cells, ⟨[v], cells, rfl, h, h1⟩, v, cells, vs, rfl, rfl, h2⟩
theorem args_agg1 (hn : τ.size = n) (h : RC NoO W τ a cs.toList) : ArgsOK W [(true, n)] τ a [.agg cs] := by
  have hl := RC_length _ _ _ h
  have hl : cs.toList.length = n := hl.trans hn
  refine ⟨cs.toList, h, cs, [], rfl, by simpa using hl, List.take_of_length_le (by omega), ?_, rfl⟩
  exact List.drop_eq_nil_of_le (by omega)
theorem args_agg (hn : τ.size = n) (h : RC NoO W τ a cs.toList) (hr : ArgsOK W ps τ' x vs) : ArgsOK W ((true, n) :: ps) (.pair τ τ') (a, x) (.agg cs :: vs) := by
  obtain ⟨cells, h1, h2⟩ := hr
  have hl : cs.toList.length = n := (RC_length _ _ _ h).trans hn
  refine ⟨cs.toList ++ cells, ⟨_, _, rfl, h, h1⟩, cs, vs, rfl, by simpa using hl, List.take_left' hl, ?_⟩
  rw [List.drop_left' hl]; exact h2
end
/-- A law that returns true: its call. -/
theorem law_calls {P : Program} {T : Tab} {g : FuncId} {p : PF} (hp : PFOK P T g p) (hs : p.rs = [(false, 1)]) (ht : p.σ = .bool) {x : p.τ.den} {y : p.σ.den} (hf : p.f x = some y) (hy : HEq y true) {W : World} (hgl : GlR NoO W [] [] T) {vs : Array Value} (ha : ArgsOK W p.ps p.τ x vs.toList) :
    Calls P g vs W fun e w' => e = .returned (.bool true) ∧ Go.RowKit.Below W.heap.size W w' := by
  obtain ⟨cells, hr, hv⟩ := ha
  have hr' : RCP NoO W p x cells := by unfold RCP; split <;> trivial
  refine (hp x y hf NoO W vs cells (fun _ h => h.elim) hgl hr' hv).mono ?_
  rintro e w' ⟨cs, rfl, hc, hb⟩
  refine ⟨?_, to_Below hb⟩
  have hpl := hc.plain (fun _ h => h.elim)
  clear hc
  obtain ⟨ps, rs, τ, σ, f, fr⟩ := p
  simp only at hs ht hpl y
  subst hs; subst ht
  cases hy
  match cs, hpl.len with
  | [v], _ =>
    have := hpl.cell 0 (.bool true) v rfl rfl
    have this : VR (fun b => NoO b ∨ FrB [] [v] b) w' [] [] (.bool true) v := this
    rw [inv_bool this]; rfl
end Go.Proofs.YtibdnfknokkadaaDoor.Ev
