/- The evaluator's values and the memory that they tell of: relations, and how they last. -/
import Derived.Test.YtibdnfknokkadaaDoorEvDef
set_option linter.unusedVariables false
set_option linter.unusedSimpArgs false
namespace Go.Proofs.YtibdnfknokkadaaDoor.Ev
open Go Go.RowKit
variable {X : Nat → Prop}

/-- Where an id lies. -/
inductive RL where
  | b (n : Nat) | s (v : Value) | d
/-- A row without room is nobody's. -/
def vblock : Value → Option Nat
  | .slice _ _ 0 => none
  | v => v.ownBlock
theorem vblock_own {v : Value} {n : Nat} (h : vblock v = some n) : v.ownBlock = some n := by
  unfold vblock at h
  split at h
  · cases h
  · exact h
def RL.block : RL → Option Nat
  | .b n => some n
  | .s v => vblock v
  | .d => none
abbrev Rho := List RL
def owned (X : Nat → Prop) (ρ : Rho) (b : Nat) : Prop := X b ∨ ∃ r ∈ ρ, r.block = some b

theorem add_block (a : Addr) (n : Nat) : (a.add n).block = a.block := by unfold Addr.add; split <;> rfl
theorem Ty.size_pos : ∀ t : Ty, 0 < t.size
  | .int _ => Nat.one_pos
  | .bool => Nat.one_pos
  | .str => Nat.one_pos
  | .sl _ => Nat.one_pos
  | .pair a b => by have := a.size_pos; simp only [Ty.size]; omega

/-- Cells that read as data; what they lead to lies outside O. -/
def RC (O : Nat → Prop) (w : World) : (t : Ty) → t.den → List Value → Prop
  | .int k, n, cs => cs = [.int k n]
  | .bool, b, cs => cs = [.bool b]
  | .str, s, cs => cs = [.string s]
  | .pair a b, x, cs => ∃ c1 c2, cs = c1 ++ c2 ∧ RC O w a x.1 c1 ∧ RC O w b x.2 c2
  | .sl t, x, cs => ∃ a cap, cs = [.slice a x.2.length cap] ∧ (x.1 && x.2.isEmpty) = a.isNone ∧ x.2.length ≤ cap ∧ (a = none → cap = 0) ∧
      ∀ i y, x.2[i]? = some y → ∃ ad c, a = some ad ∧ ¬ O ad.block ∧ (∀ j v, c[j]? = some v → w.cell? (ad.add (i * t.size + j)) = some v) ∧ RC O w t y c

theorem RC_length {O : Nat → Prop} {w : World} : ∀ (t : Ty) (x : t.den) (cs : List Value), RC O w t x cs → cs.length = t.size
  | .int _, _, _, h => by simp only [RC] at h; subst h; rfl
  | .bool, _, _, h => by simp only [RC] at h; subst h; rfl
  | .str, _, _, h => by simp only [RC] at h; subst h; rfl
  | .sl _, _, _, h => by simp only [RC] at h; obtain ⟨a, cap, rfl, _⟩ := h; rfl
  | .pair a b, x, _, h => by
    simp only [RC] at h
    obtain ⟨c1, c2, rfl, h1, h2⟩ := h
    simp only [List.length_append, Ty.size, RC_length a _ _ h1, RC_length b _ _ h2]

theorem RC_mono {O O' : Nat → Prop} {w w' : World} (hb : ∀ b, b < w.heap.size → ¬ O b → w'.heap[b]? = w.heap[b]?) (ho : ∀ b, b < w.heap.size → O' b → O b) :
    ∀ (t : Ty) (x : t.den) (cs : List Value), RC O w t x cs → RC O' w' t x cs
  | .int _, _, _, h => h
  | .bool, _, _, h => h
  | .str, _, _, h => h
  | .pair a b, x, _, h => by
    simp only [RC] at h ⊢
    obtain ⟨c1, c2, e, h1, h2⟩ := h
    exact ⟨c1, c2, e, RC_mono hb ho a _ _ h1, RC_mono hb ho b _ _ h2⟩
  | .sl t, x, _, h => by
    simp only [RC] at h ⊢
    obtain ⟨a, cap, e, hn, hl, hz, h⟩ := h
    refine ⟨a, cap, e, hn, hl, hz, fun i y hy => ?_⟩
    obtain ⟨ad, c, ha, hO, hc, hr⟩ := h i y hy
    have hlt : ad.block < w.heap.size := by
      have hl := RC_length t _ _ hr
      have hp := t.size_pos
      have := hc 0 (c[0]'(by omega)) (by simp [hl, hp])
      have := World.block_lt_of_cell? w _ this
      simpa [add_block] using this
    refine ⟨ad, c, ha, fun h' => hO (ho _ hlt h'), fun j v hv => ?_, RC_mono hb ho t _ _ hr⟩
    rw [World.cell?_of_block (w := w)]
    · exact hc j v hv
    · simpa [add_block] using hb _ hlt hO

/-- A value and what tells of it. -/
inductive VR (X : Nat → Prop) (w : World) (ρ : Rho) (h : List HE) : AV → Value → Prop
  | int (k : IntKind) (n : Int) : VR X w ρ h (.int k n) (.int k n)
  | bool (b : Bool) : VR X w ρ h (.bool b) (.bool b)
  | str (s : ByteArray) : VR X w ρ h (.str s) (.string s)
  | nils : VR X w ρ h .nils (.slice none 0 0)
  | lit (v : Value) : VR X w ρ h (.lit v) v
  | sl {t : Ty} {nl : Bool} {l : List t.den} {v : Value} (hr : RC (owned X ρ) w (.sl t) (nl, l) [v]) : VR X w ρ h (.sl t nl l) v
  | slz {nl : Bool} {v : Value} (hz : ∃ a : Option Addr, v = .slice a 0 0 ∧ nl = a.isNone) : VR X w ρ h (.slz nl) v
  | own {i g : Nat} {v : Value} (he : ∃ e : HE, h[i]? = some e ∧ g ≤ e.ver) (hg : 1 ≤ g) (ha : ∀ (t : Ty) (e : TypeId) (nl : Bool) (l : List t.den), h[i]? = some (.lst t e nl g l) → ρ[i]? = some (.s v))
      (hs : ∃ a n c, v = .slice a n c) : VR X w ρ h (.own i g) v
  | ptr {i b off : Nat} (hr : ρ[i]? = some (.b b)) : VR X w ρ h (.ptr i off) (.pointer (some ⟨b, off, none⟩))
  | eptr {i g sz k off : Nat} {ad : Addr} (he : ∃ e : HE, h[i]? = some e ∧ g ≤ e.ver) (hg : 1 ≤ g)
      (ha : ∀ (t : Ty) (e : TypeId) (nl : Bool) (l : List t.den), h[i]? = some (.lst t e nl g l) → ∃ b n cap, ρ[i]? = some (.s (.slice (some ⟨b, 0, none⟩) n cap)) ∧ ad = ⟨b, k * sz + off, none⟩) :
      VR X w ρ h (.eptr i g sz k off) (.pointer (some ad))
  | ro {t : Ty} {x : t.den} {off : Nat} {ad : Addr} {c : List Value} (hO : ¬ owned X ρ ad.block) (hb : ad.block < w.heap.size) (hc : ∀ j v, c[off + j]? = some v → w.cell? (ad.add j) = some v) (hr : RC (owned X ρ) w t x c) : VR X w ρ h (.ro t x off) (.pointer (some ad))
  | agg {cs : List AV} {vs : Array Value} (hl : cs.length = vs.size) (hh : ∀ (i : Nat) (c : AV) (v : Value), cs[i]? = some c → vs[i]? = some v → VR X w ρ h c v) : VR X w ρ h (.agg cs) (.agg vs)
  | tup {cs : List AV} {vs : Array Value} (hl : cs.length = vs.size) (hh : ∀ (i : Nat) (c : AV) (v : Value), cs[i]? = some c → vs[i]? = some v → VR X w ρ h c v) : VR X w ρ h (.tup cs) (.tuple vs)
  | fn {f : Fn} {a b : List AV} {a' b' : Array Value} (hl : a.length = a'.size) (hh : ∀ (i : Nat) (c : AV) (v : Value), a[i]? = some c → a'[i]? = some v → VR X w ρ h c v)
      (hl' : b.length = b'.size) (hh' : ∀ (i : Nat) (c : AV) (v : Value), b[i]? = some c → b'[i]? = some v → VR X w ρ h c v) : VR X w ρ h (.fn f a b) (.func f a' b')
  | junk (v : Value) : VR X w ρ h .junk v
  | vw {i g z : Nat} {k n : Int} {v : Value} (he : ∃ e : HE, h[i]? = some e ∧ g ≤ e.ver) (h0 : 0 ≤ k ∧ 0 ≤ n)
      (ha : ∀ (t : Ty) (e : TypeId) (nl : Bool) (l : List t.den), h[i]? = some (.lst t e nl g l) → ∃ a m c a', ρ[i]? = some (.s (.slice a m c)) ∧ v = .slice a' n.toNat (c - k.toNat) ∧ k.toNat + n.toNat ≤ m ∧ (k.toNat < c → a' = a.map (·.add (k.toNat * z))) ∧ a'.isNone = a.isNone) :
      VR X w ρ h (.vw i g z k n) v
  | mpv {i b : Nat} (hr : ρ[i]? = some (.b b)) : VR X w ρ h (.mpv i) (.map (some b))
  | bs {i b off n cap : Nat} (hr : ρ[i]? = some (.b b)) : VR X w ρ h (.bs i off n cap) (.slice (some ⟨b, off, none⟩) n cap)

/-- From one moment to a later one: what is not owned lasts; a list that bears its old number lies where it lay. -/
structure Fwd (X : Nat → Prop) (w : World) (ρ : Rho) (h : List HE) (w' : World) (ρ' : Rho) (h' : List HE) : Prop where
  size : w.heap.size ≤ w'.heap.size
  blk : ∀ b, b < w.heap.size → ¬ owned X ρ b → w'.heap[b]? = w.heap[b]?
  own : ∀ b, b < w.heap.size → owned X ρ' b → owned X ρ b
  ent : ∀ (i : Nat) (e : HE), h[i]? = some e → ∃ e', h'[i]? = some e' ∧ e.ver ≤ e'.ver
  lst : ∀ (i : Nat) (e : HE) (t : Ty) (ty : TypeId) (nl : Bool) (g : Nat) (l : List t.den), h[i]? = some e → h'[i]? = some (.lst t ty nl g l) →
    e.ver < g ∨ ((∃ (t' : Ty) (ty' : TypeId) (nl' : Bool) (l' : List t'.den), e = .lst t' ty' nl' g l') ∧ ρ'[i]? = ρ[i]?)
  rb : ∀ (i b : Nat), ρ[i]? = some (.b b) → ρ'[i]? = some (.b b)

theorem Fwd.refl (w : World) (ρ : Rho) (h : List HE) : Fwd X w ρ h w ρ h :=
  ⟨Nat.le_refl _, fun _ _ _ => rfl, fun _ _ h => h, fun _ e h => ⟨e, h, Nat.le_refl _⟩, fun i e t ty nl g l h h' => .inr ⟨by rw [h] at h'; exact ⟨t, ty, nl, l, Option.some.inj h'⟩, rfl⟩, fun _ _ h => h⟩
theorem Fwd.trans {w w1 w2 : World} {ρ ρ1 ρ2 : Rho} {h h1 h2 : List HE} (a : Fwd X w ρ h w1 ρ1 h1) (b : Fwd X w1 ρ1 h1 w2 ρ2 h2) : Fwd X w ρ h w2 ρ2 h2 where
  size := Nat.le_trans a.size b.size
  blk := fun k hk hO => by
    have e := a.blk k hk hO
    rw [b.blk k (Nat.lt_of_lt_of_le hk a.size) (fun hc => hO (a.own k hk hc)), e]
  own := fun k hk hO => a.own k hk (b.own k (Nat.lt_of_lt_of_le hk a.size) hO)
  ent := fun i e he => by
    obtain ⟨e1, h1, l1⟩ := a.ent i e he
    obtain ⟨e2, h2, l2⟩ := b.ent i e1 h1
    exact ⟨e2, h2, Nat.le_trans l1 l2⟩
  lst := fun i e t ty nl g l he h2 => by
    obtain ⟨e1, h1, l1⟩ := a.ent i e he
    rcases b.lst i e1 t ty nl g l h1 h2 with hlt | ⟨⟨t', ty', nl', l', rfl⟩, hr⟩
    · exact .inl (Nat.lt_of_le_of_lt l1 hlt)
    · rcases a.lst i e t' ty' nl' g l' he h1 with hlt | ⟨hx, hr'⟩
      · exact .inl hlt
      · exact .inr ⟨hx, hr.trans hr'⟩
  rb := fun i k hk => b.rb i k (a.rb i k hk)

theorem RC_fwd {w w' : World} {ρ ρ' : Rho} {h h' : List HE} (f : Fwd X w ρ h w' ρ' h') {t : Ty} {x : t.den} {cs : List Value} (hr : RC (owned X ρ) w t x cs) : RC (owned X ρ') w' t x cs :=
  RC_mono f.blk f.own t x cs hr
theorem VR_fwd {w w' : World} {ρ ρ' : Rho} {h h' : List HE} (f : Fwd X w ρ h w' ρ' h') {c : AV} {v : Value} (hv : VR X w ρ h c v) : VR X w' ρ' h' c v := by
  induction hv with
  | int k n => exact .int k n
  | bool b => exact .bool b
  | str s => exact .str s
  | nils => exact .nils
  | lit v => exact .lit v
  | sl hr => exact .sl (RC_fwd f hr)
  | slz hz => exact .slz hz
  | @own i g v he hg ha hs =>
    obtain ⟨e, he, hle⟩ := he
    obtain ⟨e', he', hle'⟩ := f.ent i e he
    refine .own ⟨e', he', Nat.le_trans hle hle'⟩ hg (fun t ty nl l hl => ?_) hs
    rcases f.lst i e t ty nl g l he hl with hlt | ⟨⟨t', ty', nl', l', rfl⟩, hr⟩
    · omega
    · rw [hr]; exact ha t' ty' nl' l' he
  | ptr hr => exact .ptr (f.rb _ _ hr)
  | mpv hr => exact .mpv (f.rb _ _ hr)
  | bs hr => exact .bs (f.rb _ _ hr)
  | @eptr i g sz k off ad he hg ha =>
    obtain ⟨e, he, hle⟩ := he
    obtain ⟨e', he', hle'⟩ := f.ent i e he
    refine .eptr ⟨e', he', Nat.le_trans hle hle'⟩ hg (fun t ty nl l hl => ?_)
    rcases f.lst i e t ty nl g l he hl with hlt | ⟨⟨t', ty', nl', l', rfl⟩, hr⟩
    · omega
    · rw [hr]; exact ha t' ty' nl' l' he
  | ro hO hb hc hr => exact .ro (fun h' => hO (f.own _ hb h')) (Nat.lt_of_lt_of_le hb f.size) (fun j v hv => by rw [World.cell?_of_block (w := w)]; exact hc j v hv; simpa [add_block] using f.blk _ hb hO) (RC_fwd f hr)
  | agg hl _ ih => exact .agg hl ih
  | tup hl _ ih => exact .tup hl ih
  | fn hl _ hl' _ ih ih' => exact .fn hl ih hl' ih'
  | junk v => exact .junk v
  | @vw i g z k n v he h0 ha =>
    obtain ⟨e, he, hle⟩ := he
    obtain ⟨e', he', hle'⟩ := f.ent i e he
    refine .vw ⟨e', he', Nat.le_trans hle hle'⟩ h0 (fun t ty nl l hl => ?_)
    rcases f.lst i e t ty nl g l he hl with hlt | ⟨⟨t', ty', nl', l', rfl⟩, hr⟩
    · omega
    · rw [hr]; exact ha t' ty' nl' l' he
theorem map_at {α β : Type} {f : α → β} {l : List α} {i : Nat} {c : β} (h : (l.map f)[i]? = some c) : ∃ x, l[i]? = some x ∧ c = f x := by
  rw [List.getElem?_map] at h
  cases hl : l[i]? with
  | none => rw [hl] at h; simp at h
  | some x => rw [hl] at h; simp at h; exact ⟨x, rfl, h.symm⟩

theorem add_plain (b o j : Nat) : (⟨b, o, none⟩ : Addr).add j = ⟨b, o + j, none⟩ := by unfold Addr.add; split <;> simp_all
/-- A row of its own with room: a plain one, or one that came of a string's bytes. -/
structure RowAt (w : World) (base : Nat) (e : TypeId) (size n : Nat) (xs : List Value) (g c : Nat) (cur : Array Value) (ty : TypeId) (fz : Nat × Nat) : Prop where
  lo : base ≤ g
  here : w.heap[g]? = some (.cells cur ty fz)
  kind : (e < MARK ∧ ty = e ∧ fz = (0, 0)) ∨ (MARK ≤ e ∧ (c + 1) * size ≤ fz.1)
  num : n ≤ c + 1
  cap : c + 1 ≤ maxLen
  len : cur.size = (c + 1) * size
  tk : cur.toList.take (n * size) = xs
section
variable {w : World} {base : Nat} {e : TypeId} {size n : Nat} {xs : List Value} {g c : Nat} {cur : Array Value} {ty : TypeId} {fz : Nat × Nat}
theorem RowAt.xlen (h : RowAt w base e size n xs g c cur ty fz) : xs.length = n * size := by
  rw [← h.tk, List.length_take, Array.length_toList, h.len]
  have : n * size ≤ (c + 1) * size := Nat.mul_le_mul_right _ h.num
  omega
theorem RowAt.own (h : RowAt w base e size n xs g c cur ty fz) (he : e < MARK) : w.ownsRow base e size (.slice (some ⟨g, 0, none⟩) n (c + 1)) n xs := by
  rcases h.kind with ⟨_, rfl, rfl⟩ | ⟨h1, _⟩
  · exact ⟨h.xlen, .inr ⟨g, c + 1, cur, rfl, h.lo, h.here, h.num, h.cap, h.len, h.tk⟩⟩
  · exact absurd he (Nat.not_lt.2 h1)
theorem RowAt.cells (h : RowAt w base e size n xs g c cur ty fz) : ∀ j u, xs[j]? = some u → w.cell? ((⟨g, 0, none⟩ : Addr).add j) = some u := fun j u hu => by
  rw [add_plain, Nat.zero_add]
  rw [← h.tk, List.getElem?_take] at hu
  split at hu
  · simp only [World.cell?, h.here]; simpa using hu
  · simp at hu
theorem RowAt.lt (h : RowAt w base e size n xs g c cur ty fz) : g < w.heap.size := (Array.getElem?_eq_some_iff.1 h.here).1
theorem RowAt.free (h : RowAt w base e size n xs g c cur ty fz) : fz.1 = 0 ∧ fz.2 = 0 ∨ cur.size ≤ fz.1 := by
  rcases h.kind with ⟨_, _, rfl⟩ | ⟨_, h1⟩
  · exact .inl ⟨rfl, rfl⟩
  · exact .inr (by rw [h.len]; exact h1)
/-- Written to. -/
theorem RowAt.write (h : RowAt w base e size n xs g c cur ty fz) {cur' : Array Value} (hs : cur'.size = cur.size) {n' : Nat} (hn : n' ≤ c + 1) : RowAt (w.setRow g cur') base e size n' (cur'.toList.take (n' * size)) g c cur' ty fz where
  lo := h.lo
  here := setRow_heap w g cur cur' ty fz h.here
  kind := h.kind
  num := hn
  cap := h.cap
  len := by rw [hs]; exact h.len
  tk := rfl
end
/-- A list's row: no elements and no room, or a row of its own with room. -/
def rowOf (w : World) (base : Nat) (e : TypeId) (size : Nat) (v : Value) (n : Nat) (xs : List Value) : Prop :=
  (n = 0 ∧ xs = [] ∧ ∃ a, v = .slice a 0 0) ∨ ∃ g c cur ty fz, v = .slice (some ⟨g, 0, none⟩) n (c + 1) ∧ RowAt w base e size n xs g c cur ty fz
theorem rowOf.nil (w : World) (base : Nat) (e : TypeId) (size : Nat) : rowOf w base e size (.slice none 0 0) 0 [] := .inl ⟨rfl, rfl, _, rfl⟩
theorem rowOf.mk {w : World} {base : Nat} {e : TypeId} {size : Nat} {v : Value} {n : Nat} {xs : List Value} (he : e < MARK) (h : w.ownsRow base e size v n xs) : rowOf w base e size v n xs := by
  rcases h.2 with ⟨rfl, rfl⟩ | ⟨g, cap, cur, rfl, hg, hh, hn, h1, h2, h3⟩
  · exact .inl ⟨rfl, List.eq_nil_of_length_eq_zero (by simpa using h.1), _, rfl⟩
  · cases cap with
    | zero =>
      have : n = 0 := by omega
      subst this
      exact .inl ⟨rfl, List.eq_nil_of_length_eq_zero (by simpa using h.1), _, rfl⟩
    | succ c => exact .inr ⟨g, c, cur, e, (0, 0), rfl, hg, hh, .inl ⟨he, rfl, rfl⟩, hn, h1, h2, h3⟩
theorem rowOf.len {w : World} {base : Nat} {e : TypeId} {size : Nat} {v : Value} {n : Nat} {xs : List Value} (h : rowOf w base e size v n xs) : xs.length = n * size := by
  rcases h with ⟨rfl, rfl, a, rfl⟩ | ⟨g, c, cur, ty, fz, _, h⟩
  · simp
  · exact h.xlen
theorem rowOf.sl {w : World} {base : Nat} {e : TypeId} {size : Nat} {v : Value} {n : Nat} {xs : List Value} (h : rowOf w base e size v n xs) : ∃ a c, v = .slice a n c ∧ n ≤ c := by
  rcases h with ⟨rfl, rfl, a, rfl⟩ | ⟨g, c, cur, ty, fz, rfl, h⟩
  · exact ⟨_, _, rfl, Nat.le_refl _⟩
  · exact ⟨_, _, rfl, h.num⟩
theorem rowOf_of_block {w w' : World} {base : Nat} {e : TypeId} {sz : Nat} {v : Value} {n : Nat} {xs : List Value} (h : rowOf w base e sz v n xs)
    (hb : ∀ k, vblock v = some k → w'.heap[k]? = w.heap[k]?) : rowOf w' base e sz v n xs := by
  rcases h with h | ⟨g, c, cur, ty, fz, rfl, h⟩
  · exact .inl h
  · exact .inr ⟨g, c, cur, ty, fz, rfl, h.lo, by rw [hb g rfl]; exact h.here, h.kind, h.num, h.cap, h.len, h.tk⟩

/-- A key's, an element's value. -/
def VF (a : Bool) (v : Value) : Prop := match a with | true => ∃ vs, v = .agg vs | false => v.cells = #[v]
def FV (O : Nat → Prop) (w : World) (a : Bool) (t : Ty) (x : t.den) (v : Value) : Prop := RC O w t x v.cells.toList ∧ VF a v
/-- What is held, and where. -/
inductive HER (X : Nat → Prop) (w : World) (ρ : Rho) (h : List HE) (base : Nat) : HE → RL → Prop
  | blk {cs : List AV} {n : Nat} {cur : Array Value} {ty : TypeId} (hb : w.heap[n]? = some (.cells cur ty (0, 0))) (hl : cur.size = cs.length)
      (hh : ∀ (i : Nat) (c : AV) (v : Value), cs[i]? = some c → cur[i]? = some v → VR X w ρ h c v) : HER X w ρ h base (.blk cs) (.b n)
  | lst {t : Ty} {e : TypeId} {nl : Bool} {g : Nat} {l : List t.den} {v : Value} {xs : List Value} (hg : 1 ≤ g) (ho : rowOf w base e t.size v l.length xs)
      (hn : v = .slice none 0 0 ↔ (nl && l.isEmpty) = true) (hh : ∀ (i : Nat) (y : t.den), l[i]? = some y → RC (owned X ρ) w t y ((xs.drop (i * t.size)).take t.size)) : HER X w ρ h base (.lst t e nl g l) (.s v)
  | dead (g : Nat) : HER X w ρ h base (.dead g) .d
  | mp {ka ea : Bool} {K E : Ty} {D : List (Nat × K.den × E.den)} {clk n : Nat} {es : Array MapEntry} (hb : w.heap[n]? = some (.map es clk)) (hl : es.size = D.length)
      (hh : ∀ (i : Nat) (d : Nat × K.den × E.den) (e : MapEntry), D[i]? = some d → es[i]? = some e → e.born = d.1 ∧ FV (owned X ρ) w ka K d.2.1 e.key ∧ FV (owned X ρ) w ea E d.2.2 e.val)
      (hc : ∀ (i : Nat) (d : Nat × K.den × E.den), D[i]? = some d → d.1 < clk) : HER X w ρ h base (.mp ka ea K E D clk) (.b n)
  | itr {i since last m n : Nat} {seen : List Nat} (hr : ρ[i]? = some (.b m)) (hb : w.heap[n]? = some (.mapIter (some m) since seen.toArray last)) : HER X w ρ h base (.itr i since seen last) (.b n)
structure HeapR (X : Nat → Prop) (w : World) (ρ : Rho) (base : Nat) (h : List HE) : Prop where
  len : ρ.length = h.length
  ent : ∀ (i : Nat) (e : HE), h[i]? = some e → ∃ r, ρ[i]? = some r ∧ HER X w ρ h base e r
  dist : ∀ (i j : Nat) (r r' : RL) (n : Nat), ρ[i]? = some r → ρ[j]? = some r' → r.block = some n → r'.block = some n → i = j
  lo : ∀ (i : Nat) (r : RL) (n : Nat), ρ[i]? = some r → r.block = some n → base ≤ n ∧ n < w.heap.size
  ext : ∀ b, X b → b < base

/-- An entry lasts where its own block does. -/
theorem HER_fwd {w w' : World} {ρ ρ' : Rho} {h h' : List HE} {base : Nat} (f : Fwd X w ρ h w' ρ' h') {e : HE} {r : RL} (hb : ∀ k, r.block = some k → w'.heap[k]? = w.heap[k]?) (hr : HER X w ρ h base e r) :
    HER X w' ρ' h' base e r := by
  cases hr with
  | blk hn hl hh => exact .blk (by rw [hb _ rfl]; exact hn) hl (fun i c v hc hv => VR_fwd f (hh i c v hc hv))
  | lst hg ho hn hh => exact .lst hg (rowOf_of_block ho hb) hn (fun i y hy => RC_fwd f (hh i y hy))
  | dead g => exact .dead g
  | mp hbk hl hh hc => exact .mp (by rw [hb _ rfl]; exact hbk) hl (fun i d e hd he => by
      obtain ⟨h1, h2, h3⟩ := hh i d e hd he
      exact ⟨h1, ⟨RC_fwd f h2.1, h2.2⟩, ⟨RC_fwd f h3.1, h3.2⟩⟩) hc
  | itr hr hbk => exact .itr (f.rb _ _ hr) (by rw [hb _ rfl]; exact hbk)

/-- Slots. -/
def EnvR (X : Nat → Prop) (w : World) (ρ : Rho) (h : List HE) (env : List (Nat × AV)) (ts : Array Value) : Prop := ∀ t, VR X w ρ h (look env t) (ts.getD t undef)
theorem EnvR_fwd {w w' : World} {ρ ρ' : Rho} {h h' : List HE} (f : Fwd X w ρ h w' ρ' h') {env : List (Nat × AV)} {ts : Array Value} (he : EnvR X w ρ h env ts) : EnvR X w' ρ' h' env ts := fun t => VR_fwd f (he t)
theorem EnvR_put {w : World} {ρ : Rho} {h : List HE} {env : List (Nat × AV)} {ts : Array Value} (he : EnvR X w ρ h env ts) {d : Nat} {c : AV} {v : Value} (hd : d < ts.size) (hv : VR X w ρ h c v) :
    EnvR X w ρ h ((d, c) :: env) (ts.setIfInBounds d v) := by
  intro t
  simp only [look]
  cases hb : Nat.beq d t
  · have hne : d ≠ t := Nat.ne_of_beq_eq_false hb
    have := he t
    simpa [Array.getD_eq_getD_getElem?, Array.getElem?_setIfInBounds_ne hne] using this
  · have : d = t := Nat.eq_of_beq_eq_true hb
    subst this
    simpa [Array.getD_eq_getD_getElem?, hd] using hv
theorem EnvR_know {w : World} {ρ : Rho} {h : List HE} {env : List (Nat × AV)} {ts : Array Value} (he : EnvR X w ρ h env ts) {d : Nat} {c : AV} (hv : VR X w ρ h c (ts.getD d undef)) : EnvR X w ρ h ((d, c) :: env) ts := by
  intro t
  simp only [look]
  cases hb : Nat.beq d t
  · exact he t
  · have : d = t := Nat.eq_of_beq_eq_true hb
    subst this
    exact hv
theorem owned_of {ρ : Rho} {i : Nat} {r : RL} {n : Nat} (h : ρ[i]? = some r) (hn : r.block = some n) : owned X ρ n := .inr ⟨r, List.mem_of_getElem? h, hn⟩
/-- Nothing but fresh memory: what is held stays. -/
theorem HeapR_same {w w' : World} {ρ : Rho} {base : Nat} {h : List HE} (hh : HeapR X w ρ base h) (hs : w.heap.size ≤ w'.heap.size) (hb : ∀ b, b < w.heap.size → w'.heap[b]? = w.heap[b]?) : HeapR X w' ρ base h ∧ Fwd X w ρ h w' ρ h := by
  have f : Fwd X w ρ h w' ρ h := { size := hs, blk := fun b hb' _ => hb b hb', own := fun _ _ h => h, ent := fun _ e h => ⟨e, h, Nat.le_refl _⟩, lst := (Fwd.refl (X := X) w ρ h).lst, rb := fun _ _ h => h }
  refine ⟨⟨hh.len, fun i e he => ?_, hh.dist, fun i r n hr hn => ⟨(hh.lo i r n hr hn).1, Nat.lt_of_lt_of_le (hh.lo i r n hr hn).2 hs⟩, hh.ext⟩, f⟩
  obtain ⟨r, hr, hher⟩ := hh.ent i e he
  exact ⟨r, hr, HER_fwd f (fun k hk => hb k (hh.lo i r k hr hk).2) hher⟩

end Go.Proofs.YtibdnfknokkadaaDoor.Ev
