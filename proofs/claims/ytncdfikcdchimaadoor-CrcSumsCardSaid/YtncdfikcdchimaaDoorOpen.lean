/- Arguments of a row that read as data, as the printed kinds tell them: plain lemmas, no program in sight. -/
import Derived.Test.YtncdfikcdchimaaDoorWWords
import Derived.SizedLaws
import Derived.ChangeSlices
import Derived.ChangeSame
import Derived.OpenShut
import Derived.Carry
import Derived.Deep.Slices
set_option linter.unusedVariables false
namespace Go.Proofs.YtncdfikcdchimaaDoor.Open
open Go.RowKit Go.ChangeShapes Go.WideShapes Go.Deep
open Go.Proofs.YtncdfikcdchimaaDoorW.PrintWords

structure Opn {α : Type} (P : Program) (t : TypeId) (d : Kd α) (wf : α → Prop) : Prop where
  len : d.sz = P.cellsOf t
  out : ∀ {H : Type} {enc : TypeId × Value → H} {w : World} {fuel : Nat} {cs : List Value} {x : DataW H × List MemPlace},
    DataW.trod enc P w 0 (fun _ => true) true fuel t cs = some x → (∀ n ∈ x.1.weights P t, n ≤ reachBytes) → ∃ a, d.K w a cs ∧ wf a

theorem opn_int {P : Program} {t : TypeId} {k : IntKind} (ht : P.underlying t = some (.int k)) (hl : P.cellsOf t = 1) : Opn P t (Kd.int k) (fun n => (Lit.int k n).wf = true) where
  len := hl.symm
  out := by
    intro H enc w fuel cs x h _
    cases fuel with
    | zero => simp [DataW.trod] at h
    | succ f =>
      unfold DataW.trod at h
      rw [ht] at h
      split at h <;> simp_all
      obtain ⟨⟨rfl, hw⟩, _⟩ := h
      exact ⟨_, rfl, hw⟩

theorem opn_bool {P : Program} {t : TypeId} (ht : P.underlying t = some .bool) (hl : P.cellsOf t = 1) : Opn P t Kd.bool (fun _ => True) where
  len := hl.symm
  out := by
    intro H enc w fuel cs x h _
    cases fuel with
    | zero => simp [DataW.trod] at h
    | succ f =>
      unfold DataW.trod at h
      rw [ht] at h
      split at h <;> simp_all
      rename_i b
      cases b
      · exact .inl rfl
      · exact .inr rfl

theorem opn_string {P : Program} {t : TypeId} (ht : P.underlying t = some .string) (hl : P.cellsOf t = 1) : Opn P t Kd.string (fun s => s.size ≤ 140737488351232) where
  len := hl.symm
  out := by
    intro H enc w fuel cs x h hs
    cases fuel with
    | zero => simp [DataW.trod] at h
    | succ f =>
      unfold DataW.trod at h
      rw [ht] at h
      split at h <;> simp_all
      obtain ⟨h1, rfl⟩ := h
      refine ⟨_, rfl, ?_⟩
      have := hs
      simp [DataW.weights, reachBytes] at this
      exact this

theorem weightsAll_mem {H : Type} {P : Program} {e : TypeId} {d : DataW H} : ∀ {l : List (DataW H)}, d ∈ l → ∀ n ∈ d.weights P e, n ∈ DataW.weightsAll P e l
  | y :: l, hd, n, hn => by
    rcases List.mem_cons.1 hd with rfl | hd
    · simp only [DataW.weightsAll, List.mem_append]; exact .inl hn
    · simp only [DataW.weightsAll, List.mem_append]; exact .inr (weightsAll_mem hd n hn)
  | [], hd, _, _ => by simp at hd

theorem choose_list {α : Type} (p : Nat → α → Prop) : ∀ (n : Nat), (∀ i, i < n → ∃ a, p i a) → ∃ l : List α, l.length = n ∧ ∀ i a, l[i]? = some a → p i a
  | 0, _ => ⟨[], rfl, by simp⟩
  | n + 1, h => by
    obtain ⟨l, hl, hp⟩ := choose_list p n (fun i hi => h i (by omega))
    obtain ⟨a, ha⟩ := h n (by omega)
    refine ⟨l ++ [a], by simp [hl], ?_⟩
    intro i b hb
    rcases Nat.lt_or_ge i l.length with hi | hi
    · rw [List.getElem?_append_left hi] at hb; exact hp i b hb
    · have : i = n := by
        have := (List.getElem?_eq_some_iff.1 hb).1
        simp at this; omega
      subst this
      rw [List.getElem?_append_right hi, hl] at hb
      simp at hb; subst hb; exact ha

theorem cells_some_at {w : World} {base : Nat} {a : Addr} {n : Nat} {c : List Value} (h : w.cells? base a n = some c) : c.length = n ∧ ∀ i u, c[i]? = some u → w.cell? (a.add i) = some u := by
  obtain ⟨_, hcl, hat⟩ := World.cells?_some h
  refine ⟨hcl, fun i u hu => ?_⟩
  have hi : i < n := by rw [← hcl]; exact (List.getElem?_eq_some_iff.1 hu).1
  rw [hat i hi, hu]

theorem opn_slice {α : Type} {P : Program} {t e : TypeId} {d : Kd α} {wf : α → Prop} {B : Nat} (he : Opn P e d wf) (ht : P.underlying t = some (.slice e)) (hl : P.cellsOf t = 1) (hB : P.bytesOf e = B) :
    Opn P t (Kd.slice e d) (fun l => l.length * B ≤ 140737488351232 ∧ ∀ a ∈ l, wf a) where
  len := hl.symm
  out := by
    intro H enc w fuel cs x h hs
    rcases open_slice ht h with ⟨rfl, rfl⟩ | ⟨a, len, cap, m, n, D, Pl, rfl, hb, hlc, hcap, hm, hx, hi⟩
    · refine ⟨[], ⟨none, 0, rfl, Nat.le_refl _, ?_⟩, by simp, by simp⟩
      exact ⟨rfl, by simp, fun h => absurd h (by simp)⟩
    · obtain rfl : m = cap := by simpa using hm
      subst hx
      have hw : ∀ i, i < len → ∀ n ∈ (D i).weights P e, n ≤ reachBytes := by
        intro i hi' n hn
        refine hs n ?_
        simp only [DataW.weights, ht, List.mem_cons, List.mem_append]
        exact .inr (.inl (weightsAll_mem (List.mem_map.2 ⟨i, by simpa using hi', rfl⟩) n hn))
      obtain ⟨l, hll, hp⟩ := choose_list (fun i v => ∃ c, w.cells? 0 (a.add (i * P.cellsOf e)) (P.cellsOf e) = some c ∧ d.K w v c ∧ wf v) len (by
        intro i hi'
        obtain ⟨c, hc, htr⟩ := hi i (by omega)
        obtain ⟨v, hk, hwf⟩ := he.out htr (hw i hi')
        exact ⟨v, c, hc, hk, hwf⟩)
      refine ⟨l, ⟨some a, m, by rw [hll], by omega, ?_⟩, ?_, ?_⟩
      · refine ⟨rfl, by rw [hll]; simp only [maxLen] at hcap; omega, fun _ => ⟨a, rfl, ?_⟩⟩
        intro j p hj
        obtain ⟨c, hc, hk, _⟩ := hp j p hj
        obtain ⟨h1, h2⟩ := cells_some_at hc
        refine ⟨c, by rw [h1, he.len], hk, fun i u hu => ?_⟩
        have := h2 i u hu
        rw [Go.Deep.add_add] at this
        rw [he.len]; exact this
      · have := hs ((len + (m - len)) * P.bytesOf e) (by simp [DataW.weights, ht])
        rw [hB] at this
        rw [hll]
        have h2 : len * B ≤ (len + (m - len)) * B := Nat.mul_le_mul_right _ (by omega)
        have h3 : reachBytes = 140737488351232 := rfl
        omega
      · intro v hv
        obtain ⟨i, hi'⟩ := List.mem_iff_getElem?.1 hv
        obtain ⟨_, _, _, h⟩ := hp i v hi'
        exact h

/-- Fields from one on, in line. -/
def OpnF {α : Type} (P : Program) (fs : List Field) (off : Nat) (d : Kd α) (wf : α → Prop) : Prop :=
  ∀ {H : Type} {enc : TypeId × Value → H} {w : World} {fuel : Nat} (cs : List Value) (ys : List (DataW H × List MemPlace)), ys.length = fs.length →
    (∀ (j : Nat) (f : Field), fs[j]? = some f → DataW.trod enc P w 0 (fun _ => true) true fuel f.type ((cs.drop f.offset).take (P.cellsOf f.type)) = ys[j]?) →
    (∀ n ∈ DataW.weightsEach P (fs.map (·.type)) (ys.map (·.1)), n ≤ reachBytes) → cs.length = off + d.sz → ∃ a, d.K w a (cs.drop off) ∧ wf a

theorem opnF_one {α : Type} {P : Program} {f : Field} {off : Nat} {d : Kd α} {wf : α → Prop} (h : Opn P f.type d wf) (ho : f.offset = off) : OpnF P [f] off d wf := by
  intro H enc w fuel cs ys hys ht hs hl
  match ys, hys with
  | [y], _ =>
    have h1 := ht 0 f rfl
    have e : (cs.drop f.offset).take (P.cellsOf f.type) = cs.drop off := by
      rw [ho, List.take_of_length_le]; rw [List.length_drop, hl, ← h.len]; omega
    rw [e] at h1
    exact h.out h1 (fun n hn => hs n (by simp only [List.map, DataW.weightsEach, List.mem_append]; exact .inl hn))

theorem opnF_cons {α β : Type} {P : Program} {f : Field} {fs : List Field} {off : Nat} {d : Kd α} {d' : Kd β} {wf : α → Prop} {wf' : β → Prop}
    (h : Opn P f.type d wf) (ho : f.offset = off) (h' : OpnF P fs (off + d.sz) d' wf') : OpnF P (f :: fs) off (Kd.pair d d') (fun p => wf p.1 ∧ wf' p.2) := by
  intro H enc w fuel cs ys hys ht hs hl
  match ys, hys with
  | y :: ys, hys =>
    have h1 := ht 0 f rfl
    have e : (cs.drop f.offset).take (P.cellsOf f.type) = (cs.drop off).take d.sz := by rw [ho, h.len]
    rw [e] at h1
    obtain ⟨a, ha, hwa⟩ := h.out h1 (fun n hn => hs n (by simp only [List.map, DataW.weightsEach, List.mem_append]; exact .inl hn))
    obtain ⟨b, hb, hwb⟩ := h' cs ys (by simpa using hys) (fun j g hg => ht (j + 1) g hg) (fun n hn => hs n (by simp only [List.map, DataW.weightsEach, List.mem_append]; exact .inr hn)) (by rw [hl]; show off + (d.sz + d'.sz) = _; omega)
    refine ⟨(a, b), ⟨_, _, ?_, ha, hb⟩, hwa, hwb⟩
    rw [← List.drop_drop, List.take_append_drop]

theorem opn_struct {α β : Type} {P : Program} {t : TypeId} {fs : Array Field} {d : Kd α} {wf : α → Prop} (f : β → α) (g : α → β) (hfg : ∀ a, f (g a) = a)
    (ht : P.underlying t = some (.struct fs)) (hl : d.sz = P.cellsOf t) (h : OpnF P fs.toList 0 d wf) : Opn P t (Kd.iso d f) (fun b => wf (f b)) where
  len := hl
  out := by
    intro H enc w fuel cs x hx hs
    obtain ⟨xs, n, _, rfl, hcl, hlen, hf⟩ := DataW.trod_struct ht hx
    obtain ⟨a, ha, hwa⟩ := h cs xs (by rw [hlen]; simp) (fun j f hj => hf j f (by simpa using hj)) (fun n hn => hs n (by simp only [DataW.weights, ht]; exact hn)) (by rw [hcl, hl]; omega)
    refine ⟨g a, ?_, by rw [hfg]; exact hwa⟩
    show d.K w (f (g a)) cs
    rw [hfg]
    simpa using ha

/-- Elements of an array from one on, in line. -/
def OpnA {α : Type} (P : Program) (e : TypeId) (off n : Nat) (d : Kd α) (wf : α → Prop) : Prop :=
  ∀ {H : Type} {enc : TypeId × Value → H} {w : World} {fuel : Nat} (cs : List Value) (ys : List (DataW H × List MemPlace)), ys.length = n →
    (∀ (j : Nat), j < n → DataW.trod enc P w 0 (fun _ => true) true fuel e ((cs.drop ((off + j) * P.cellsOf e)).take (P.cellsOf e)) = ys[j]?) →
    (∀ m ∈ DataW.weightsAll P e (ys.map (·.1)), m ≤ reachBytes) → cs.length = off * P.cellsOf e + d.sz → ∃ a, d.K w a (cs.drop (off * P.cellsOf e)) ∧ wf a

theorem opnA_one {α : Type} {P : Program} {e : TypeId} {off : Nat} {d : Kd α} {wf : α → Prop} (h : Opn P e d wf) : OpnA P e off 1 d wf := by
  intro H enc w fuel cs ys hys ht hs hl
  match ys, hys with
  | [y], _ =>
    have h1 := ht 0 (by omega)
    have e1 : (cs.drop ((off + 0) * P.cellsOf e)).take (P.cellsOf e) = cs.drop (off * P.cellsOf e) := by
      rw [Nat.add_zero, List.take_of_length_le]; rw [List.length_drop, hl, ← h.len]; omega
    rw [e1] at h1
    exact h.out h1 (fun n hn => hs n (by simp only [List.map, DataW.weightsAll, List.mem_append]; exact .inl hn))

theorem opnA_cons {α β : Type} {P : Program} {e : TypeId} {off n : Nat} {d : Kd α} {d' : Kd β} {wf : α → Prop} {wf' : β → Prop}
    (h : Opn P e d wf) (h' : OpnA P e (off + 1) n d' wf') : OpnA P e off (n + 1) (Kd.pair d d') (fun p => wf p.1 ∧ wf' p.2) := by
  intro H enc w fuel cs ys hys ht hs hl
  match ys, hys with
  | y :: ys, hys =>
    have h1 := ht 0 (by omega)
    have e1 : (cs.drop ((off + 0) * P.cellsOf e)).take (P.cellsOf e) = (cs.drop (off * P.cellsOf e)).take d.sz := by rw [Nat.add_zero, h.len]
    rw [e1] at h1
    have hp : (off + 1) * P.cellsOf e = off * P.cellsOf e + d.sz := by rw [Nat.succ_mul, h.len]
    obtain ⟨a, ha, hwa⟩ := h.out h1 (fun n hn => hs n (by simp only [List.map, DataW.weightsAll, List.mem_append]; exact .inl hn))
    obtain ⟨b, hb, hwb⟩ := h' cs ys (by simpa using hys) (fun j hj => by have := ht (j + 1) (by omega); rw [show off + 1 + j = off + (j + 1) by omega]; exact this) (fun n hn => hs n (by simp only [List.map, DataW.weightsAll, List.mem_append]; exact .inr hn)) (by rw [hl, hp]; show _ + (d.sz + d'.sz) = _; omega)
    refine ⟨(a, b), ⟨_, _, ?_, ha, hb⟩, hwa, hwb⟩
    rw [hp, ← List.drop_drop, List.take_append_drop]

theorem opn_array {α β : Type} {P : Program} {t e : TypeId} {n : Nat} {d : Kd α} {wf : α → Prop} (f : β → α) (g : α → β) (hfg : ∀ a, f (g a) = a)
    (ht : P.underlying t = some (.array n e)) (hl : d.sz = P.cellsOf t) (h : OpnA P e 0 n d wf) : Opn P t (Kd.iso d f) (fun b => wf (f b)) where
  len := hl
  out := by
    intro H enc w fuel cs x hx hs
    obtain ⟨xs, m, _, rfl, hcl, hlen, hf⟩ := DataW.trod_array ht hx
    obtain ⟨a, ha, hwa⟩ := h cs xs hlen (fun j hj => by rw [Nat.zero_add]; exact hf j hj) (fun n hn => hs n (by simp only [DataW.weights, ht]; exact hn)) (by rw [hcl, hl]; omega)
    refine ⟨g a, ?_, by rw [hfg]; exact hwa⟩
    show d.K w (f (g a)) cs
    rw [hfg]
    simpa using ha

theorem okWide_array {P : Program} {w : World} {r : Reach} {base : Nat} {t e : TypeId} {n : Nat} {v : Value} (ht : P.underlying t = some (.array n e)) (h : Value.okWide P w r base t v) : ∃ cs, v = .agg cs ∧ cs.size = P.cellsOf t := by
  simp only [Value.okWide, ht] at h
  obtain ⟨cs, h1, h2, _⟩ := h
  exact ⟨cs, h1, h2⟩

section
variable {H : Type} {enc : TypeId × Value → H} {P : Program} {w : World} {ts : List TypeId} {ds : List (DataW H)} {j : Nat} {t : TypeId} {x : DataW H} {p : List MemPlace} {v : Value} {r : Reach} {b0 : Nat}
theorem light (hsz : (DataW.weightsEach P ts ds).all (· ≤ reachBytes) = true) (ht : ts[j]? = some t) (hd : ds[j]? = some x) : ∀ n ∈ x.weights P t, n ≤ reachBytes := fun n hn => by
  have := List.all_eq_true.1 hsz _ (DataW.weights_mem_each ht hd n hn)
  simpa using this

/-- A struct that came in by value: its cells by the fields' kinds. -/
theorem open_struct_val {α : Type} {fs : Array Field} {d : Kd α} {wf : α → Prop} (hu : P.underlying t = some (.struct fs)) (hl : d.sz = P.cellsOf t) (h : OpnF P fs.toList 0 d wf)
    (hv : Value.okWide P w r b0 t v) (hT : DataW.Trod enc P w 0 (fun _ => true) true t v x p) (hs : ∀ n ∈ x.weights P t, n ≤ reachBytes) : ∃ cs a, v = .agg cs ∧ d.K w a cs.toList ∧ wf a := by
  obtain ⟨cs, rfl, _⟩ := okWide_struct hu hv
  obtain ⟨fuel, hf⟩ := hT
  obtain ⟨xs, n, _, hx, hcl, hlen, hg⟩ := DataW.trod_struct hu hf
  simp only [Prod.mk.injEq] at hx
  obtain ⟨a, ha, hwa⟩ := h cs.toList xs (by rw [hlen]; simp) (fun j f hj => hg j f (by simpa using hj)) (fun n hn => hs n (by rw [hx.1]; simp only [DataW.weights, hu]; exact hn)) (by rw [Nat.zero_add, hl]; exact hcl)
  exact ⟨cs, a, rfl, by simpa using ha, hwa⟩

/-- An array that came in by value. -/
theorem open_array_val {α : Type} {e : TypeId} {n : Nat} {d : Kd α} {wf : α → Prop} (hu : P.underlying t = some (.array n e)) (hl : d.sz = P.cellsOf t) (h : OpnA P e 0 n d wf)
    (hv : Value.okWide P w r b0 t v) (hT : DataW.Trod enc P w 0 (fun _ => true) true t v x p) (hs : ∀ n ∈ x.weights P t, n ≤ reachBytes) : ∃ cs a, v = .agg cs ∧ d.K w a cs.toList ∧ wf a := by
  obtain ⟨cs, rfl, _⟩ := okWide_array hu hv
  obtain ⟨fuel, hf⟩ := hT
  obtain ⟨xs, m, _, hx, hcl, hlen, hg⟩ := DataW.trod_array hu hf
  simp only [Prod.mk.injEq] at hx
  obtain ⟨a, ha, hwa⟩ := h cs.toList xs hlen (fun j hj => by rw [Nat.zero_add]; exact hg j hj) (fun n hn => hs n (by rw [hx.1]; simp only [DataW.weights, hu]; exact hn)) (by rw [Nat.zero_mul, Nat.zero_add, hl]; exact hcl)
  exact ⟨cs, a, rfl, by simpa using ha, hwa⟩

/-- A slice that came in: its elements by their kind. -/
theorem open_slice_val {α : Type} {e : TypeId} {d : Kd α} {wf : α → Prop} {B : Nat} (hu : P.underlying t = some (.slice e)) (hl : P.cellsOf t = 1) (hB : P.bytesOf e = B) (h : Opn P e d wf)
    (hv : Value.okWide P w r b0 t v) (hT : DataW.Trod enc P w 0 (fun _ => true) true t v x p) (hs : ∀ n ∈ x.weights P t, n ≤ reachBytes) :
    ∃ A c, ∃ l : List α, v = .slice A l.length c ∧ l.length ≤ c ∧ d.C w A l.length l ∧ l.length * B ≤ 140737488351232 ∧ ∀ a ∈ l, wf a := by
  obtain ⟨A, len, cap, rfl⟩ := okWide_slice hu hv
  obtain ⟨fuel, hf⟩ := hT
  have hf' : DataW.trod enc P w 0 (fun _ => true) true fuel t [.slice A len cap] = some (x, p) := by simpa [Value.cells] using hf
  obtain ⟨l, ⟨A', c, he, hlc, hC⟩, hw1, hw2⟩ := (opn_slice h hu hl hB).out hf' hs
  simp only [List.cons.injEq, and_true, Value.slice.injEq] at he
  obtain ⟨rfl, rfl, rfl⟩ := he
  exact ⟨A, cap, l, rfl, hlc, hC, hw1, hw2⟩
theorem trod_places (hT : DataW.Trod enc P w 0 (fun _ => true) true t v x p) : ∀ y ∈ p, y.block < w.heap.size := by
  obtain ⟨m, hm⟩ := hT
  exact DataW.trod_lt m _ _ _ hm
end
theorem arr_eq {cs : Array Value} {l : List Value} (h : cs.toList = l) : cs = ⟨l⟩ := by cases cs; cases h; rfl
end Go.Proofs.YtncdfikcdchimaaDoor.Open
