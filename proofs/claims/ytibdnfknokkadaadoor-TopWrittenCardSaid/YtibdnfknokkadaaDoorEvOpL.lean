/- Windows on lists of its own; copy, clear; a string's bytes. -/
import Derived.Test.YtibdnfknokkadaaDoorEvOpK
import Derived.Lib.ConvBytes
set_option linter.unusedVariables false
set_option linter.unusedSimpArgs false
namespace Go.Proofs.YtibdnfknokkadaaDoor.Ev
open Go Go.RowKit
variable {X : Nat → Prop}

section
variable {R : Type} {w : World} {ρ : Rho} {base : Nat} {h : List HE} {P : Program} {T : Tab}
theorem splice_elem {xs news : List Value} {sz n k q : Nat} (hx : xs.length = n * sz) (hn : news.length = q * sz) (hk : k + q ≤ n) (j : Nat) :
    ((xs.take (k * sz) ++ news ++ xs.drop (k * sz + news.length)).drop (j * sz)).take sz = if j < k then (xs.drop (j * sz)).take sz else if j < k + q then (news.drop ((j - k) * sz)).take sz else (xs.drop (j * sz)).take sz := by
  have hfit : k * sz + news.length ≤ xs.length := by rw [hn, hx, ← Nat.add_mul]; exact Nat.mul_le_mul_right _ hk
  apply List.ext_getElem?
  intro p
  rw [List.getElem?_take, List.getElem?_drop, splice_get _ _ _ _ hfit]
  by_cases hp' : p < sz
  · rw [if_pos hp']
    by_cases h1 : j < k
    · have : (j + 1) * sz ≤ k * sz := Nat.mul_le_mul_right _ h1
      rw [Nat.succ_mul] at this
      rw [if_pos h1, if_pos (by omega), List.getElem?_take, List.getElem?_drop, if_pos hp']
    · have hkj : k * sz ≤ j * sz := Nat.mul_le_mul_right _ (by omega)
      rw [if_neg h1, if_neg (by omega)]
      by_cases h2 : j < k + q
      · have a1 : (j + 1) * sz ≤ (k + q) * sz := Nat.mul_le_mul_right _ h2
        rw [Nat.succ_mul, Nat.add_mul] at a1
        have a2 : (j - k) * sz = j * sz - k * sz := Nat.sub_mul ..
        rw [if_pos h2, if_pos (by rw [hn]; omega), List.getElem?_take, List.getElem?_drop, if_pos hp', a2]
        congr 1; omega
      · have a1 : (k + q) * sz ≤ j * sz := Nat.mul_le_mul_right _ (by omega)
        rw [Nat.add_mul] at a1
        rw [if_neg h2, if_neg (by rw [hn]; omega), List.getElem?_take, List.getElem?_drop, if_pos hp']
  · rw [if_neg hp']
    split
    · rw [List.getElem?_take, if_neg hp']
    · split <;> rw [List.getElem?_take, if_neg hp']
theorem lay_get {α : Type} {l m : List α} {k : Nat} (hk : k + m.length ≤ l.length) (j : Nat) : (lay l k m)[j]? = if j < k then l[j]? else if j < k + m.length then m[j - k]? else l[j]? := splice_get l m k j hk
theorem lay_length {α : Type} {l m : List α} {k : Nat} (hk : k + m.length ≤ l.length) : (lay l k m).length = l.length := splice_length l m k hk
theorem lay_nil {α : Type} (l : List α) (k : Nat) : lay l k [] = l := by simp [lay]
/-- Elements of a list of its own, laid anew. -/
theorem lay_sound (hh : HeapR X w ρ base h) (hb : base ≤ w.heap.size) {i g : Nat} {t : Ty} {e : TypeId} {nl : Bool} {l : List t.den} (hi : h[i]? = some (.lst t e nl g l)) {b c : Nat} (hr : ρ[i]? = some (.s (.slice (some ⟨b, 0, none⟩) l.length (c + 1))))
    {cur : Array Value} {ty : TypeId} {fz : Nat × Nat} {xs : List Value} (row : RowAt w base e t.size l.length xs b c cur ty fz) (hel : ∀ j y, l[j]? = some y → RC (owned X ρ) w t y ((xs.drop (j * t.size)).take t.size))
    (hg1 : 1 ≤ g) (hnl : (nl && l.isEmpty) = false) {m : List t.den} {news : List Value} (hn : news.length = m.length * t.size) (hm : ∀ j y, m[j]? = some y → RC (owned X ρ) w t y ((news.drop (j * t.size)).take t.size)) {k : Nat} (hk : k + m.length ≤ l.length) :
    ∃ ρ', HeapR X (w.setRow b (cur.toList.take (k * t.size) ++ news ++ cur.toList.drop (k * t.size + news.length)).toArray) ρ' base (h.set i (.lst t e nl g (lay l k m))) ∧
      Fwd X w ρ h (w.setRow b (cur.toList.take (k * t.size) ++ news ++ cur.toList.drop (k * t.size + news.length)).toArray) ρ' (h.set i (.lst t e nl g (lay l k m))) ∧
      Below base w (w.setRow b (cur.toList.take (k * t.size) ++ news ++ cur.toList.drop (k * t.size + news.length)).toArray) ∧ ρ'[i]? = ρ[i]? ∧ (h.set i (.lst t e nl g (lay l k m)))[i]? = some (.lst t e nl g (lay l k m)) := by
  have hxl := row.xlen
  have hcl : cur.toList.length = (c + 1) * t.size := by rw [Array.length_toList, row.len]
  have hle : l.length * t.size ≤ (c + 1) * t.size := Nat.mul_le_mul_right _ row.num
  have hkm : k * t.size + news.length ≤ l.length * t.size := by rw [hn, ← Nat.add_mul]; exact Nat.mul_le_mul_right _ hk
  have hxs : (cur.toList.take (k * t.size) ++ news ++ cur.toList.drop (k * t.size + news.length)).take (l.length * t.size) = xs.take (k * t.size) ++ news ++ xs.drop (k * t.size + news.length) := by
    apply List.ext_getElem?
    intro q
    rw [List.getElem?_take, splice_get _ _ _ _ (by omega), splice_get _ _ _ _ (by omega), ← row.tk]
    simp only [List.getElem?_take]
    by_cases hq : q < l.length * t.size
    · simp only [hq, if_true]
    · simp only [hq, if_false]
      rw [if_neg (by omega), if_neg (by omega)]
  have hll := lay_length hk
  obtain ⟨g1, g2, g3, g4⟩ := set_entry hh hi hr (e := .lst t e nl g (lay l k m)) (rl := .s (.slice (some ⟨b, 0, none⟩) l.length (c + 1)))
    (w' := w.setRow b (cur.toList.take (k * t.size) ++ news ++ cur.toList.drop (k * t.size + news.length)).toArray) hb (by rw [setRow_size]; exact Nat.le_refl _)
    (fun q _ hne => setRow_other w b q _ (fun e => hne (by rw [e]; rfl))) (fun n hn => ⟨.inl hn, by rw [setRow_size]; exact (hh.lo _ _ n hr hn).2⟩) (Nat.le_refl _)
    (fun t' ty' nl' g' l' he => by simp only [HE.lst.injEq] at he; obtain ⟨rfl, rfl, rfl, rfl, he⟩ := he; exact .inr ⟨⟨_, _, _, _, rfl⟩, rfl⟩)
    (fun _ he => by cases he) (fun f => by
      refine .lst hg1 (xs := xs.take (k * t.size) ++ news ++ xs.drop (k * t.size + news.length)) ?_ ?_ ?_
      · rw [hll]
        refine .inr ⟨b, c, (cur.toList.take (k * t.size) ++ news ++ cur.toList.drop (k * t.size + news.length)).toArray, ty, fz, rfl, ?_⟩
        have := row.write (cur' := (cur.toList.take (k * t.size) ++ news ++ cur.toList.drop (k * t.size + news.length)).toArray) (by rw [List.size_toArray, splice_length _ _ _ (by omega), Array.length_toList]) (n' := l.length) row.num
        rwa [hxs] at this
      · have hee : (lay l k m).isEmpty = l.isEmpty := by
          cases l with
          | nil => have : lay ([] : List t.den) k m = [] := List.eq_nil_of_length_eq_zero hll
                   rw [this]
          | cons a r => cases hq : lay (a :: r) k m with
            | nil => rw [hq] at hll; simp at hll
            | cons => rfl
        rw [hee, hnl]
        simp
      · intro j z hz
        rw [splice_elem hxl hn hk]
        rw [lay_get hk] at hz
        split
        · rename_i h1; rw [if_pos h1] at hz; exact RC_fwd f (hel j z hz)
        · rename_i h1
          rw [if_neg h1] at hz
          split
          · rename_i h2; rw [if_pos h2] at hz; exact RC_fwd f (hm _ z hz)
          · rename_i h2; rw [if_neg h2] at hz; exact RC_fwd f (hel j z hz))
  exact ⟨_, g1, g2, below_setRow row.lo _, by rw [g4, hr], g3⟩

theorem view_sound (hh : HeapR X w ρ base h) {x : AV} {v : Value} (hv : VR X w ρ h x v) {K : Nat → Nat → (t : Ty) → TypeId → Bool → List t.den → Int → Int → Option R} {r : R} (hk : viewAt h x K = some r) :
    ∃ (i g : Nat) (t : Ty) (e : TypeId) (nl : Bool) (l : List t.den) (k n : Int) (a : Option Addr) (c : Nat) (a' : Option Addr) (xs : List Value), K i g t e nl l k n = some r ∧ h[i]? = some (.lst t e nl g l) ∧ ρ[i]? = some (.s (.slice a l.length c)) ∧ 1 ≤ g ∧
      rowOf w base e t.size (.slice a l.length c) l.length xs ∧ (Value.slice a l.length c = .slice none 0 0 ↔ (nl && l.isEmpty) = true) ∧ (∀ j y, l[j]? = some y → RC (owned X ρ) w t y ((xs.drop (j * t.size)).take t.size)) ∧
      v = .slice a' n.toNat (c - k.toNat) ∧ 0 ≤ k ∧ 0 ≤ n ∧ k.toNat + n.toNat ≤ l.length ∧ l.length ≤ c ∧ (k.toNat < c → a' = a.map (·.add (k.toNat * t.size))) ∧ a'.isNone = a.isNone := by
  unfold viewAt at hk
  split at hk
  · rename_i i g
    split at hk
    · rename_i t e nl g' l hi
      have h2 := cond_some hk
      clear hk
      obtain ⟨hc, hk⟩ := h2
      obtain rfl := Nat.eq_of_beq_eq_true hc
      obtain ⟨rl, hrl, hher⟩ := hh.ent _ _ hi
      cases hv with
      | own hx1 hg1 ha hs =>
        have ha := ha _ _ _ _ hi
        obtain rfl := Option.some.inj (hrl.symm.trans ha)
        cases hher with
        | @lst _ _ _ _ _ _ xs hg how hn hel =>
          obtain ⟨a, c, rfl, hlc⟩ := how.sl
          refine ⟨i, g, t, e, nl, l, 0, lenI l, a, c, a, xs, hk, hi, ha, hg, how, hn, hel, ?_, Int.le_refl _, by rw [lenI_eq]; omega, by rw [lenI_eq]; simp, hlc, fun _ => ?_, rfl⟩
          · rw [lenI_eq]; simp
          · cases a with
            | none => rfl
            | some ad => simp [Addr.add]
    · simp at hk
  · rename_i i g z k n
    split at hk
    · rename_i t e nl g' l hi
      have h2 := cond_some hk
      clear hk
      obtain ⟨hc, hk⟩ := h2
      rw [Bool.and_eq_true] at hc
      obtain rfl := Nat.eq_of_beq_eq_true hc.1
      obtain rfl := Nat.eq_of_beq_eq_true hc.2
      obtain ⟨rl, hrl, hher⟩ := hh.ent _ _ hi
      cases hv with
      | vw he h0 ha =>
        obtain ⟨a, m, c, a', hr, hv, hle, had, hnn⟩ := ha _ _ _ _ hi
        obtain rfl := Option.some.inj (hrl.symm.trans hr)
        cases hher with
        | @lst _ _ _ _ _ _ xs hg how hn hel =>
          obtain ⟨a0, c0, e0, hlc⟩ := how.sl
          simp only [Value.slice.injEq] at e0
          obtain ⟨rfl, rfl, rfl⟩ := e0
          exact ⟨i, g, t, e, nl, l, k, n, a, c, a', xs, hk, hi, hr, hg, how, hn, hel, hv, h0.1, h0.2, hle, hlc, had, hnn⟩
    · simp at hk
  · simp at hk
theorem sliceOf_some (hT : TabOK P T) {t : TypeId} {j : Inf} (hs : sliceOf T t = some j) : ∃ e, P.underlying t = some (.slice e) ∧ T e = some j := by
  unfold sliceOf at hs
  split at hs
  · rename_i i hi
    split at hs
    · rename_i e hd; exact ⟨e, by rw [← hd]; exact hT.und t i hi, hs⟩
    · simp at hs
  · simp at hs
theorem run_bounds2 {len cap : Nat} {lo hi : Option Value} {l u : Int} (hlo : (lo = none ∧ l = 0) ∨ ∃ k, lo = some (.int k l)) (hhi : (hi = none ∧ u = (len : Int)) ∨ ∃ k, hi = some (.int k u)) (h0 : 0 ≤ l) (h1 : l ≤ u) (h2 : u ≤ (cap : Int)) :
    (Instr.sliceBounds true len cap lo hi none).run P w = .ok (l.toNat, u.toNat, cap) w := by
  have hu0 : 0 ≤ u := by omega
  have hl1 : l ≤ (u.toNat : Int) := by omega
  rcases hhi with ⟨rfl, rfl⟩ | ⟨k, rfl⟩ <;> rcases hlo with ⟨rfl, rfl⟩ | ⟨k', rfl⟩ <;>
    simp [Instr.sliceBounds, Instr.sliceBound, asIntOf, h0, h1, hu0, h2, hl1] <;> (intro hx; omega)
theorem run_bounds3 {len cap : Nat} {lo hi : Option Value} {l u m : Int} {km : IntKind} (hlo : (lo = none ∧ l = 0) ∨ ∃ k, lo = some (.int k l)) (hhi : ∃ k, hi = some (.int k u)) (h0 : 0 ≤ l) (h1 : l ≤ u) (h2 : u ≤ m) (h3 : m ≤ (cap : Int)) :
    (Instr.sliceBounds true len cap lo hi (some (.int km m))).run P w = .ok (l.toNat, u.toNat, m.toNat) w := by
  have hu0 : 0 ≤ u := by omega
  have hm0 : 0 ≤ m := by omega
  have hl1 : l ≤ (u.toNat : Int) := by omega
  have hu1 : u ≤ (m.toNat : Int) := by omega
  obtain ⟨k, rfl⟩ := hhi
  rcases hlo with ⟨rfl, rfl⟩ | ⟨k', rfl⟩ <;>
    simp [Instr.sliceBounds, Instr.sliceBound, asIntOf, h0, h1, hu0, hm0, h2, h3, hl1, hu1] <;> first | (intro hx; omega) | (repeat rw [if_pos (by omega)])
theorem viewK_ops (hT : TabOK P T) (hh : HeapR X w ρ base h) (hb : base ≤ w.heap.size) {A : Operand → AV} {B : Operand → Value} (hAB : ∀ x, VR X w ρ h (A x) (B x)) {t : TypeId} {x : Operand} {lo hi mx : Option Operand} {K : OK R} {r : R}
    (hk : viewK T h t (A x) (lo.map A) (hi.map A) (mx.map A) K = some r) : OpS X base w ρ h ((do pure (Next.value (← Instr.sliceAt t (B x) (lo.map B) (hi.map B) (mx.map B))) : Sem Next).run P w) K r := by
  unfold viewK at hk
  split at hk
  · rename_i j hj
    obtain ⟨e, hu, he⟩ := sliceOf_some hT hj
    have hK := hk
    clear hk
    obtain ⟨i, g, τ, ty, nl, l, k, n, a, c, a', xs, hk, hi', hr, hg1, how, hn, hel, hv, hk0, hn0, hkn, hlc, had, hnn⟩ := view_sound hh (hAB x) hK
    clear hK
    have bnd : ∀ {o : Option Operand} {d a : Int}, asI (o.map A) d = some a → (o.map B = none ∧ a = d) ∨ ∃ k, o.map B = some (.int k a) := fun {o d a} ha =>
      asI_bound (w := w) (ρ := ρ) (h := h) (fun q hq => by cases o with | none => simp at hq | some y => simp at hq; subst hq; exact ⟨B y, rfl, hAB y⟩) (fun hq => by cases o <;> simp_all) ha
    rw [hv]
    split at hk
    · rename_i a1 u1 hlo hhi hmx
      have hmx' : mx = none := by cases mx <;> simp_all
      subst hmx'
      obtain ⟨hc, hk⟩ := cond_some hk
      simp only [Bool.and_eq_true, decide_eq_true_eq, lenI_eq] at hc
      obtain ⟨⟨⟨hsz, h0⟩, h1⟩, h2⟩ := hc
      have hsz := Nat.eq_of_beq_eq_true hsz
      have hhi' : (hi.map B = none ∧ u1 = ((n.toNat : Nat) : Int)) ∨ ∃ k, hi.map B = some (.int k u1) := by
        rcases bnd hhi with ⟨h3, h4⟩ | h3
        · exact .inl ⟨h3, by omega⟩
        · exact .inr h3
      have hrun : (Instr.sliceAt t (.slice a' n.toNat (c - k.toNat)) (lo.map B) (hi.map B) none).run P w = .ok (.slice (if c - k.toNat = a1.toNat then a' else a'.map (·.add (a1.toNat * j.size))) (u1.toNat - a1.toNat) (c - k.toNat - a1.toNat)) w := by
        simp only [Instr.sliceAt, Sem.run_bind, run_underlying hu, Result.andThen_ok, Instr.slice, run_bounds2 (P := P) (w := w) (len := n.toNat) (cap := c - k.toNat) (bnd hlo) hhi' h0 h1 (by omega), run_sizeOf hT he, Sem.run_pure]
      refine OpS.of _ hrun hk ⟨ρ, hh, .vw ⟨_, hi', Nat.le_refl _⟩ ⟨by omega, by omega⟩ (fun t' e' nl' l' hl' => ?_), .refl _ _ _, Below.refl _ _⟩
      refine ⟨a, l.length, c, (if c - k.toNat = a1.toNat then a' else a'.map (·.add (a1.toNat * j.size))), hr, ?_, by omega, fun hlt => ?_, ?_⟩
      · have e1 : u1.toNat - a1.toNat = (u1 - a1).toNat := by omega
        have e2 : c - k.toNat - a1.toNat = c - (k + a1).toNat := by omega
        rw [e1, e2]
      · rw [if_neg (by omega), had (by omega), Option.map_map, ← hsz]
        congr 1
        funext ad
        simp only [Function.comp, Go.Deep.add_add]
        congr 1
        rw [← Nat.add_mul]; congr 1; omega
      · rw [← hnn]
        split
        · rfl
        · cases a' <;> rfl
    · rename_i a1 u1 km m hlo hhi hmx
      obtain ⟨mo, rfl⟩ : ∃ mo, mx = some mo := by cases mx <;> simp_all
      have hm : B mo = .int km m := by simp only [Option.map_some, Option.some.injEq] at hmx; have := hAB mo; rw [hmx] at this; exact inv_int this
      obtain ⟨hc, hk⟩ := cond_some hk
      simp only [Bool.and_eq_true, decide_eq_true_eq, lenI_eq] at hc
      obtain ⟨⟨⟨⟨⟨hsome, hsz⟩, h0⟩, h1⟩, h2⟩, h3⟩ := hc
      rw [Option.map_some, hm]
      have h4 : ∃ k, hi.map B = some (.int k u1) := by
        rcases bnd hhi with ⟨h4, h5⟩ | h4
        · cases hi with
          | none => simp at hsome
          | some y => simp at h4
        · exact h4
      have hrun : (Instr.sliceAt t (.slice a' n.toNat (c - k.toNat)) (lo.map B) (hi.map B) (some (.int km m))).run P w = .ok (.slice (if m.toNat = a1.toNat then a' else a'.map (·.add (a1.toNat * j.size))) (u1.toNat - a1.toNat) (m.toNat - a1.toNat)) w := by
        simp only [Instr.sliceAt, Sem.run_bind, run_underlying hu, Result.andThen_ok, Instr.slice, run_bounds3 (P := P) (w := w) (len := n.toNat) (cap := c - k.toNat) (bnd hlo) h4 h0 h1 h2 (by omega), run_sizeOf hT he, Sem.run_pure]
      exact OpS.of _ hrun hk ⟨ρ, hh, .junk _, .refl _ _ _, Below.refl _ _⟩
    · simp at hk
  · simp at hk
theorem set_same {l : List HE} {i : Nat} {e : HE} (h : l[i]? = some e) : l.set i e = l := by
  apply List.ext_getElem?
  intro j
  by_cases hij : i = j
  · subst hij
    rw [List.getElem?_set_self (List.getElem?_eq_some_iff.1 h).1, h]
  · rw [List.getElem?_set_ne hij]
theorem copy_ops (hT : TabOK P T) (hh : HeapR X w ρ base h) (hb : base ≤ w.heap.size) {ats : Array TypeId} {t ty : TypeId} (ha : ats[0]? = some t) {d s : AV} {vd vs : Value} {K : OK R} {r : R} (hd : VR X w ρ h d vd) (hs : VR X w ρ h s vs)
    (hk : copyK T h t d s K = some r) : OpS X base w ρ h ((do pure (Next.value (← Builtin.copy_ ats ty #[vd, vs])) : Sem Next).run P w) K r := by
  unfold copyK at hk
  split at hk
  · rename_i j hj
    obtain ⟨e, hu, he⟩ := sliceOf_some hT hj
    obtain ⟨ti, hti, e1, e2, e3⟩ := hT.info e j he
    have hK := hk
    clear hk
    obtain ⟨i, g, τ, ty', nl, l, k, n, a, c, a', xs, hk, hi', hr, hg1, how, hn, hel, hv, hk0, hn0, hkn, hlc, had, hnn⟩ := view_sound hh hd hK
    clear hK
    split at hk
    · rename_i m hm
      obtain ⟨hc, hk⟩ := cond_some hk
      have hsz := Nat.eq_of_beq_eq_true hc
      obtain ⟨sa, scap, rfl, hsn0, hss⟩ := srcSl_elems hh hm hs
      have hsn : sa = none → m = [] := fun h => (hsn0 h).2
      rw [hv]
      have hml : (m.take n.toNat).length = Nat.min m.length n.toNat := by rw [List.length_take, Nat.min_comm]
      by_cases hq : Nat.min m.length n.toNat = 0
      · have hmn : m.take n.toNat = [] := List.eq_nil_of_length_eq_zero (by rw [hml]; exact hq)
        rw [hmn, lay_nil] at hk
        have hrun : (Builtin.copy_ ats ty #[.slice a' n.toNat (c - k.toNat), .slice sa m.length scap]).run P w = .ok (.int .i64 0) w := by
          have hf : (Builtin.firstCells j.size 0 (.slice sa m.length scap)).run P w = .ok #[] w := by
            cases sa with
            | none => rfl
            | some ad => exact run_firstCells_some (P := P) w j.size 0 ad m.length scap [] (by simp) (by simp)
          simp only [Builtin.copy_, ha]
          simp only [List.getElem?_toArray, List.getElem?_cons_zero, List.getElem?_cons_succ, Sem.run_bind, run_underlying hu, Result.andThen_ok, Builtin.lenOf, Sem.run_pure, hq, run_sizeOf hT he, hf]
          cases a' <;> simp [storeCells, goInt]
        refine OpS.of _ hrun hk ⟨ρ, ?_, .int _ _, ?_, Below.refl _ _⟩
        · show HeapR X w ρ base (h.set i _)
          rw [set_same hi']; exact hh
        · show Fwd X w ρ h w ρ (h.set i _)
          rw [set_same hi']; exact .refl _ _ _
      · have hmp : 0 < m.length := by
          rcases Nat.eq_zero_or_pos m.length with h0 | h0
          · exact absurd (by rw [h0]; exact Nat.zero_min _) hq
          · exact h0
        have hnp : 0 < n.toNat := by
          rcases Nat.eq_zero_or_pos n.toNat with h0 | h0
          · exact absurd (by rw [h0]; exact Nat.min_zero _) hq
          · exact h0
        have hq1 : Nat.min m.length n.toNat ≤ m.length := Nat.min_le_left _ _
        have hq2 : Nat.min m.length n.toNat ≤ n.toNat := Nat.min_le_right _ _
        obtain ⟨sad, rfl⟩ : ∃ sad, sa = some sad := by
          cases sa with
          | none => rw [hsn rfl] at hmp; simp at hmp
          | some sad => exact ⟨sad, rfl⟩
        obtain ⟨news, h1, h2, h3, h4⟩ := hss sad rfl
        rcases how with ⟨hl0, _, _⟩ | ⟨b, c', cur, tyr, fz, he', row⟩
        · omega
        · simp only [Value.slice.injEq, true_and] at he'
          obtain ⟨rfl, rfl⟩ := he'
          have hA' := had (by omega)
          simp only [Option.map_some] at hA'
          subst hA'
          have hnl : (nl && l.isEmpty) = false := by
            cases hqq : (nl && l.isEmpty) with
            | false => rfl
            | true => have := hn.2 hqq; simp at this
          generalize hQ : Nat.min m.length n.toNat = Q at hq hq1 hq2 hml
          have hQs : Q * τ.size ≤ m.length * τ.size := Nat.mul_le_mul_right _ hq1
          have hnl2 : (news.take (Q * τ.size)).length = (m.take n.toNat).length * τ.size := by rw [List.length_take, h1, hml]; omega
          have hcur : cur.size = (c' + 1) * τ.size := row.len
          have hfit : k.toNat * τ.size + Q * τ.size ≤ cur.size := by
            rw [hcur, ← Nat.add_mul]; exact Nat.mul_le_mul_right _ (by omega)
          have hst := run_storeCells_mk (P := P) b (k.toNat * τ.size) tyr fz (news.take (Q * τ.size)) 0 cur w row.here row.free (by rw [List.length_take, h1]; omega) (fun u hu => h3 u (List.mem_of_mem_take hu))
          have hf := run_firstCells_some (P := P) w j.size Q sad m.length scap (news.take (Q * τ.size)) (by rw [hnl2, hml, hsz]) (fun j v hj => h2 j v (by
            rw [List.getElem?_take] at hj
            split at hj
            · exact hj
            · simp at hj))
          have hrun : (Builtin.copy_ ats ty #[.slice (some ((⟨b, 0, none⟩ : Addr).add (k.toNat * τ.size))) n.toNat (c' + 1 - k.toNat), .slice (some sad) m.length scap]).run P w = .ok (.int .i64 (Q : Int)) (w.setRow b (cur.toList.take (k.toNat * τ.size) ++ news.take (Q * τ.size) ++ cur.toList.drop (k.toNat * τ.size + (news.take (Q * τ.size)).length)).toArray) := by
            rw [add_plain, Nat.zero_add]
            simp only [Nat.add_zero] at hst
            simp only [Builtin.copy_, ha]
            simp only [List.getElem?_toArray, List.getElem?_cons_zero, List.getElem?_cons_succ, Sem.run_bind, run_underlying hu, Result.andThen_ok, Builtin.lenOf, Sem.run_pure, hQ, run_sizeOf hT he, hf, List.toList_toArray, hst]
            rfl
          obtain ⟨ρ', g1, g2, g3, _, _⟩ := lay_sound hh hb hi' hr row hel hg1 hnl (m := m.take n.toNat) hnl2 (fun j y hy => by
            have hjn : j < (m.take n.toNat).length := (List.getElem?_eq_some_iff.1 hy).1
            rw [List.getElem?_take] at hy
            split at hy
            · have := h4 j y hy
              rw [List.drop_take, List.take_take]
              have hjj : (j + 1) * τ.size ≤ Q * τ.size := Nat.mul_le_mul_right _ (by rw [← hml]; exact hjn)
              rw [Nat.succ_mul] at hjj
              rw [show min τ.size (Q * τ.size - j * τ.size) = τ.size by omega]
              exact this
            · simp at hy) (k := k.toNat) (by rw [hml]; omega)
          refine OpS.of _ hrun hk ⟨ρ', g1, ?_, g2, g3⟩
          rw [lenI_eq, hml]; exact .int _ _
    · simp at hk
  · simp at hk
theorem zero_cells {z : Array Value} (hz : 0 < z.size) (c i : Nat) (hi : i < c) : ((Builtin.zeroCells z c).toList.drop (i * z.size)).take z.size = z.toList := made_get hz c i hi
theorem clear_ops (hT : TabOK P T) (hh : HeapR X w ρ base h) (hb : base ≤ w.heap.size) {ats : Array TypeId} {t ty : TypeId} (ha : ats[0]? = some t) {x : AV} {v : Value} {K : OK R} {r : R} (hx : VR X w ρ h x v)
    (hk : clearK T h t x K = some r) : OpS X base w ρ h ((do pure (Next.value (← Builtin.clear_ ats ty #[v])) : Sem Next).run P w) K r := by
  unfold clearK at hk
  split at hk
  · rename_i e j τ0 he
    obtain ⟨hu, hj, hτ, hsz, hby, hmk⟩ := elemInf_some hT he
    obtain ⟨_, hz⟩ := hT.ty e j τ0 hj hτ
    have hzs := hT.zsize e j hj
    have hK := hk
    clear hk
    obtain ⟨i, g, τ, ty', nl, l, k, n, a, c, a', xs, hk, hi', hr, hg1, how, hn, hel, hv, hk0, hn0, hkn, hlc, had, hnn⟩ := view_sound hh hx hK
    clear hK
    split at hk
    · rename_i l' hl'
      obtain ⟨eτ, rfl⟩ := castL_some hl'
      subst eτ
      rw [hv]
      by_cases hn1 : n.toNat = 0
      · rw [hn1, show List.replicate 0 τ.zero = [] from rfl, lay_nil] at hk
        have hrun : (Builtin.clear_ ats ty #[.slice a' n.toNat (c - k.toNat)]).run P w = .ok (.tuple #[]) w := by
          rw [hn1]
          simp only [Builtin.clear_, ha]
          cases a' <;> simp [run_underlying hu]
        refine OpS.of _ hrun hk ⟨ρ, ?_, .junk _, ?_, Below.refl _ _⟩
        · show HeapR X w ρ base (h.set i _)
          rw [set_same hi']; exact hh
        · show Fwd X w ρ h w ρ (h.set i _)
          rw [set_same hi']; exact .refl _ _ _
      · rcases how with ⟨hl0, _, _⟩ | ⟨b, c', cur, tyr, fz, he', row⟩
        · omega
        · simp only [Value.slice.injEq, true_and] at he'
          obtain ⟨rfl, rfl⟩ := he'
          have hA' := had (by omega)
          simp only [Option.map_some] at hA'
          subst hA'
          have hnl : (nl && l.isEmpty) = false := by
            cases hqq : (nl && l.isEmpty) with
            | false => rfl
            | true => have := hn.2 hqq; simp at this
          have hpos : 0 < j.zero.cells.size := by rw [hzs, ← hsz]; exact τ.size_pos
          have hnl2 : (Builtin.zeroCells j.zero.cells n.toNat).toList.length = (List.replicate n.toNat τ.zero).length * τ.size := by
            rw [List.length_replicate, hsz, ← hzs]; simp [Builtin.zeroCells]
          have hcur : cur.size = (c' + 1) * τ.size := row.len
          have hone : ∀ u ∈ (Builtin.zeroCells j.zero.cells n.toNat).toList, u.oneCell' = true := by
            intro u hu
            have h1 := RC_one τ _ _ (hz (owned X ρ) w)
            simp only [Builtin.zeroCells, Array.toList_map, List.mem_map] at hu
            obtain ⟨q, _, rfl⟩ := hu
            have hlt : q % j.zero.cells.size < j.zero.cells.size := Nat.mod_lt _ hpos
            rw [getElem!_pos j.zero.cells _ hlt]
            exact h1 _ (by simp)
          have hfit : k.toNat * τ.size + n.toNat * τ.size ≤ cur.size := by
            rw [hcur, ← Nat.add_mul]; exact Nat.mul_le_mul_right _ (by omega)
          have hst := run_storeCells_mk (P := P) b (k.toNat * τ.size) tyr fz (Builtin.zeroCells j.zero.cells n.toNat).toList 0 cur w row.here row.free (by rw [hnl2, List.length_replicate]; omega) hone
          have hrun : (Builtin.clear_ ats ty #[.slice (some ((⟨b, 0, none⟩ : Addr).add (k.toNat * τ.size))) n.toNat (c' + 1 - k.toNat)]).run P w = .ok (.tuple #[]) (w.setRow b (cur.toList.take (k.toNat * τ.size) ++ (Builtin.zeroCells j.zero.cells n.toNat).toList ++ cur.toList.drop (k.toNat * τ.size + (Builtin.zeroCells j.zero.cells n.toNat).toList.length)).toArray) := by
            rw [add_plain, Nat.zero_add]
            simp only [Nat.add_zero] at hst
            obtain ⟨n', hn'⟩ : ∃ n', n.toNat = n' + 1 := ⟨n.toNat - 1, by omega⟩
            rw [hn'] at hst ⊢
            simp only [Builtin.clear_, ha]
            simp only [List.getElem?_toArray, List.getElem?_cons_zero, Sem.run_bind, run_underlying hu, Result.andThen_ok, run_zeroValue hT hj, hst, Sem.run_pure]
          obtain ⟨ρ', g1, g2, g3, _, _⟩ := lay_sound hh hb hi' hr row hel hg1 hnl (m := List.replicate n.toNat τ.zero) hnl2 (fun q y hy => by
            have hq : q < n.toNat := by have := (List.getElem?_eq_some_iff.1 hy).1; simpa using this
            have hy' : y = τ.zero := by rw [List.getElem?_replicate, if_pos hq] at hy; exact (Option.some.inj hy).symm
            subst hy'
            have := zero_cells hpos n.toNat q hq
            rw [hzs, ← hsz] at this
            rw [this]; exact hz _ _) (k := k.toNat) (by rw [List.length_replicate]; omega)
          exact OpS.of _ hrun hk ⟨ρ', g1, .junk _, g2, g3⟩
    · simp at hk
  · simp at hk
theorem appendV_ops (hT : TabOK P T) (hh : HeapR X w ρ base h) (hb : base ≤ w.heap.size) {t ty : TypeId} {s x : AV} {vs vx : Value} {K : OK R} {r : R} (hs : VR X w ρ h s vs) (hx : VR X w ρ h x vx)
    (hk : appendVK T h t s x K = some r) : OpS X base w ρ h ((do pure (Next.value (← Builtin.append_ #[t, t] ty #[vs, vx])) : Sem Next).run P w) K r := by
  unfold appendVK at hk
  split at hk
  · rename_i e j τ0 he
    obtain ⟨hu, hj, hτ, hszj, hby, hmk⟩ := elemInf_some hT he
    obtain ⟨ti, hti, e1, e2, e3⟩ := hT.info e j hj
    have hK := hk
    clear hk
    obtain ⟨i, g, τ, ty', nl, l, k, n, a, c, a', xs, hk, hi', hr, hg1, how, hn, hel, hv, hk0, hn0, hkn, hlc, had, hnn⟩ := view_sound hh hs hK
    clear hK
    split at hk
    · rename_i m hm
      have h2 := cond_some hk
      clear hk
      obtain ⟨hc, hk⟩ := h2
      simp only [Bool.and_eq_true, decide_eq_true_eq, lenI_eq] at hc
      obtain ⟨⟨⟨hsz, hty⟩, rfl⟩, hfit0⟩ := hc
      have hsz := Nat.eq_of_beq_eq_true hsz
      obtain rfl := Nat.eq_of_beq_eq_true hty
      obtain ⟨sa, scap, rfl, hsn0, hss⟩ := srcSl_elems hh hm hx
      have hsn : sa = none → m = [] := fun h => (hsn0 h).2
      rw [hv]
      have fin : ∀ {ρ' : Rho} {h' : List HE} {w' : World}, ρ'[i]? = ρ[i]? → h'[i]? = some (.lst τ e nl g (lay l n.toNat m)) → VR X w' ρ' h' (.vw i g τ.size 0 (n + lenI m)) (.slice a' (n.toNat + m.length) c) := fun {ρ' h' w'} h1 h2 => by
        refine .vw ⟨_, h2, Nat.le_refl _⟩ ⟨Int.le_refl _, by rw [lenI_eq]; omega⟩ (fun t' e' nl' l' hl' => ?_)
        rw [h1]
        refine ⟨a, _, c, a', hr, ?_, ?_, ?_, hnn⟩
        · rw [lenI_eq]; simp; omega
        · rw [lenI_eq]; simp; omega
        · intro hlt; exact had hlt
      by_cases hm0 : m.length = 0
      · have hmn : m = [] := List.eq_nil_of_length_eq_zero hm0
        subst hmn
        have hrun : (Builtin.append_ #[t, t] ty #[.slice a' n.toNat (c - (0 : Int).toNat), .slice sa ([] : List τ.den).length scap]).run P w = .ok (.slice a' n.toNat c) w := by
          have hf : (Builtin.firstCells ti.size 0 (.slice sa 0 scap)).run P w = .ok #[] w := by
            cases sa with
            | none => rfl
            | some ad => exact run_firstCells_some (P := P) w ti.size 0 ad 0 scap [] (by simp) (by simp)
          have hle : n.toNat ≤ c := by omega
          cases a' <;> simp [Builtin.append_, run_underlying hu, sizeOf, typeInfo, hti, Builtin.lenOf, hf, storeCells, hle]
        refine OpS.of _ hrun hk ⟨ρ, ?_, ?_, ?_, Below.refl _ _⟩
        · show HeapR X w ρ base (h.set i _)
          rw [lay_nil, set_same hi']; exact hh
        · have := fin (w' := w) (ρ' := ρ) (h' := h.set i (.lst τ e nl g (lay l n.toNat []))) rfl (by rw [List.getElem?_set_self (List.getElem?_eq_some_iff.1 hi').1])
          exact this
        · show Fwd X w ρ h w ρ (h.set i _)
          rw [lay_nil, set_same hi']; exact .refl _ _ _
      · obtain ⟨sad, rfl⟩ : ∃ sad, sa = some sad := by
          cases sa with
          | none => rw [hsn rfl] at hm0; simp at hm0
          | some sad => exact ⟨sad, rfl⟩
        obtain ⟨news, h1, h2, h3, h4⟩ := hss sad rfl
        rcases how with ⟨hl0, _, _⟩ | ⟨b, c', cur, tyr, fz, he', row⟩
        · omega
        · simp only [Value.slice.injEq, true_and] at he'
          obtain ⟨rfl, rfl⟩ := he'
          have hA' : a' = some ⟨b, 0, none⟩ := by
            rw [had (by simp)]; simp [Addr.add]
          subst hA'
          have hnl : (nl && l.isEmpty) = false := by
            cases hqq : (nl && l.isEmpty) with
            | false => rfl
            | true => have := hn.2 hqq; simp at this
          have hkind : tyr = e ∧ fz = (0, 0) := by
            rcases row.kind with ⟨_, h5, h6⟩ | ⟨h5, _⟩
            · exact ⟨h5, h6⟩
            · exact absurd hmk (Nat.not_lt.2 h5)
          obtain ⟨rfl, rfl⟩ := hkind
          have hs1 : ti.size = τ.size := by rw [e1, hsz]
          have hfit : n.toNat * ti.size + news.length ≤ cur.size := by
            rw [row.len, h1, hs1, ← Nat.add_mul]; exact Nat.mul_le_mul_right _ (by omega)
          have hrun := run_append_room (P := P) w t ty tyr ti hu hti b n.toNat (c' + 1) cur row.here sad m.length scap news (by rw [h1, hs1]) h2 h3 (by omega) hfit
          rw [hs1] at hrun
          obtain ⟨ρ', g1, g2, g3, g4, g5⟩ := lay_sound hh hb hi' hr row hel hg1 hnl (m := m) h1 h4 (k := n.toNat) (by omega)
          exact OpS.of _ hrun hk ⟨ρ', g1, fin g4 g5, g2, g3⟩
    · simp at hk
  · simp at hk
theorem bytes_ops (hT : TabOK P T) (hh : HeapR X w ρ base h) (hb : base ≤ w.heap.size) {s d : TypeId} {nid : Nat} {x : AV} {v : Value} {K : OK R} {r : R} (hx : VR X w ρ h x v)
    (hk : bytesK T h nid s d x K = some r) : OpS X base w ρ h ((do pure (Next.value (← convert s d v)) : Sem Next).run P w) K r := by
  unfold bytesK at hk
  split at hk
  · rename_i is id b hs hd
    split at hk
    · rename_i e his hid
      split at hk
      · rename_i k he
        split at hk
        · rename_i hkd
          obtain ⟨hc, hk⟩ := cond_some hk
          simp only [Bool.and_eq_true, decide_eq_true_eq] at hc
          obtain ⟨⟨hf, hks⟩, hbs⟩ := hc
          have hus := hT.und s is hs
          have hud := hT.und d id hd
          have hue := hT.und e k he
          rw [his] at hus
          rw [hid] at hud
          rw [hkd] at hue
          rw [inv_str hx]
          have hrun := Go.Lib.run_convert_string_bytes (P := P) w s d e b hus hud hue
          have hge := grownCap_ge w b.size 0 e
          have hle := grownCap_le_maxLen w b.size 0 e (by simp only [most] at hbs; simp only [maxLen]; omega)
          have hlen : (intsOf b).length = b.size := by simp [intsOf]
          have hbel : Below base w (Go.Lib.bytesWorld w e b) := of_Below rfl rfl rfl (by rw [Go.Lib.bytesWorld_size]; omega) (fun j hj => Go.Lib.bytesWorld_at_old w e b j (by omega)) (by unfold Go.Lib.bytesWorld World.freeze; split <;> exact Nat.le_add_right _ 1)
          have hcs : (Go.Lib.bytesCells w e b).size = grownCap w b.size 0 e := by
            simp only [Go.Lib.bytesCells, Array.size_append, Array.size_map, Array.size_replicate]
            show b.data.size + (grownCap w b.size 0 e - b.size) = _
            have : b.data.size = b.size := rfl
            omega
          have htk : (Go.Lib.bytesCells w e b).toList.take b.size = (intsOf b).map (Value.int .u8) := by
            simp only [Go.Lib.bytesCells, Array.toList_append, Array.toList_map]
            rw [List.take_append_of_le_length (by simp), List.take_of_length_le (by simp)]
            simp [intsOf, List.map_map, Function.comp_def]
          generalize hgc : grownCap w b.size 0 e = gc at hrun hge hle hcs
          refine OpS.of _ hrun hk (new_lst (τ := .int .u8) (e := MARK + e) (nl := false) (l := intsOf b) (xs := (intsOf b).map (Value.int .u8)) hh hb hf (by rw [Go.Lib.bytesWorld_size]; omega) (fun q hq => Go.Lib.bytesWorld_at_old w e b q hq) hbel
            (fun n hn => by have hn := vblock_own hn; simp only [Value.ownBlock, Option.some.injEq] at hn; rw [Go.Lib.bytesWorld_size]; omega) ⟨_, _, _, rfl⟩ ?_ (by simp) (fun q y hy => ?_))
          · rw [hlen]
            cases gc with
            | zero =>
              have hb0 : b.size = 0 := by omega
              exact .inl ⟨hb0, List.eq_nil_of_length_eq_zero (by rw [List.length_map, hlen, hb0]), _, by rw [hb0]⟩
            | succ c =>
              refine .inr ⟨w.heap.size, c, Go.Lib.bytesCells w e b, e, _, rfl, hb, Go.Lib.bytesWorld_at_new w e b, .inr ⟨Nat.le_add_right _ _, ?_⟩, hge, hle, ?_, ?_⟩
              · simp only [Ty.size, Nat.mul_one]; omega
              · simp only [Ty.size, Nat.mul_one]; omega
              · simp only [Ty.size, Nat.mul_one]; exact htk
          · simp only [Ty.size, Nat.mul_one, RC]
            have hq : q < ((intsOf b).map (Value.int .u8)).length := by rw [List.length_map]; exact (List.getElem?_eq_some_iff.1 hy).1
            rw [List.drop_eq_getElem_cons hq]
            have : (intsOf b)[q]'(by simpa using hq) = y := (List.getElem?_eq_some_iff.1 hy).2
            simp [this]
        · simp at hk
      · simp at hk
    · simp at hk
  · simp at hk
theorem extB_ops (hT : TabOK P T) (hh : HeapR X w ρ base h) (hb : base ≤ w.heap.size) {b : Builtin} {ats : Array TypeId} {ty : TypeId} {consts : Array Bool} {args : List AV} {vs : Array Value} {K : OK R} {r : R} (hv : VRs X w ρ h args vs.toList)
    (hk : extB T h b ats args K = some r) : OpS X base w ρ h ((builtin b ats ty consts vs).run P w) K r := by
  unfold extB at hk
  split at hk
  · rename_i t d s ht
    obtain ⟨v, rest, e1, hs, hrest⟩ := hv.uncons
    obtain ⟨u, rest', rfl, hx, hrest'⟩ := hrest.uncons
    have : rest' = [] := List.eq_nil_of_length_eq_zero (by simpa using hrest'.1.symm)
    subst this
    obtain rfl : vs = #[v, u] := by apply Array.ext'; simpa using e1
    exact copy_ops hT hh hb ht hs hx hk
  · rename_i t x ht
    obtain ⟨v, rest, e1, hx, hrest⟩ := hv.uncons
    have : rest = [] := List.eq_nil_of_length_eq_zero (by simpa using hrest.1.symm)
    subst this
    obtain rfl : vs = #[v] := by apply Array.ext'; simpa using e1
    exact clear_ops hT hh hb ht hx hk
  · rename_i t s x h0
    obtain ⟨v, rest, e1, hs, hrest⟩ := hv.uncons
    obtain ⟨u, rest', rfl, hx, hrest'⟩ := hrest.uncons
    have : rest' = [] := List.eq_nil_of_length_eq_zero (by simpa using hrest'.1.symm)
    subst this
    obtain rfl : vs = #[v, u] := by apply Array.ext'; simpa using e1
    split at hk
    · rename_i t' h1
      have h2 := cond_some hk
      clear hk
      obtain ⟨hc, hk⟩ := h2
      rw [Bool.and_eq_true] at hc
      obtain rfl := Nat.eq_of_beq_eq_true hc.1
      have hsz := Nat.eq_of_beq_eq_true hc.2
      obtain rfl : ats = #[t, t] := by
        apply Array.ext (by simpa using hsz)
        intro i hi hi'
        have : i = 0 ∨ i = 1 := by rw [hsz] at hi; omega
        rcases this with rfl | rfl
        · have := Array.getElem?_eq_getElem hi; rw [h0] at this; simpa using (Option.some.inj this).symm
        · have := Array.getElem?_eq_getElem hi; rw [h1] at this; simpa using (Option.some.inj this).symm
      exact appendV_ops hT hh hb hs hx hk
    · simp at hk
  · rename_i t x ht
    obtain ⟨v, rest, e1, hx, hrest⟩ := hv.uncons
    have : rest = [] := List.eq_nil_of_length_eq_zero (by simpa using hrest.1.symm)
    subst this
    obtain rfl : vs = #[v] := by apply Array.ext'; simpa using e1
    split at hk
    · rename_i j hj
      obtain ⟨e, hu, he⟩ := sliceOf_some hT hj
      obtain ⟨i, g, τ, ty', nl, l, k, n, a, c, a', xs, hk, hi', hr, hg1, how, hn, hel, hv, hk0, hn0, hkn, hlc, had, hnn⟩ := view_sound hh hx hk
      rw [hv]
      have hrun : (Builtin.len_ ats ty #[.slice a' n.toNat (c - k.toNat)]).run P w = .ok (.int .i64 (n.toNat : Int)) w := by
        simp only [Builtin.len_, ht]
        simp only [List.getElem?_toArray, List.getElem?_cons_zero, Sem.run_bind, run_underlying hu, Result.andThen_ok]
        rfl
      exact OpS.of _ hrun hk ⟨ρ, hh, int_of (by omega), .refl _ _ _, Below.refl _ _⟩
    · simp at hk
  · simp at hk
end
end Go.Proofs.YtibdnfknokkadaaDoor.Ev
