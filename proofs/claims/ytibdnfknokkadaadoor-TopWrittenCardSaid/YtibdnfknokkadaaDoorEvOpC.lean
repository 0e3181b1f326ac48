/- Addresses, parts, slices, conversions. -/
import Derived.Test.YtibdnfknokkadaaDoorEvOpB
set_option linter.unusedVariables false
set_option linter.unusedSimpArgs false
namespace Go.Proofs.YtibdnfknokkadaaDoor.Ev
open Go Go.RowKit
variable {X : Nat → Prop}

section
variable {R : Type} {w : World} {ρ : Rho} {base : Nat} {h : List HE} {P : Program} {T : Tab}
theorem fieldOf_some (hT : TabOK P T) {s : TypeId} {f off : Nat} {j : Inf} (hf : fieldOf T s f = some (off, j)) : ∃ fs fd, P.underlying s = some (.struct fs) ∧ fs[f]? = some fd ∧ fd.offset = off ∧ T fd.type = some j := by
  unfold fieldOf at hf
  split at hf
  · rename_i i hi
    split at hf
    · rename_i fs hd
      split at hf
      · rename_i fd hfd
        split at hf
        · rename_i k hk
          simp only [Option.some.injEq, Prod.mk.injEq] at hf
          obtain ⟨rfl, rfl⟩ := hf
          exact ⟨fs, fd, by rw [← hd]; exact hT.und s i hi, hfd, rfl, hk⟩
        · simp at hf
      · simp at hf
    · simp at hf
  · simp at hf
theorem ptr_inv {p : AV} {v : Value} (hp : (∃ i o, p = .ptr i o) ∨ (∃ i g z k o, p = .eptr i g z k o) ∨ (∃ t x o, p = .ro t x o)) (hv : VR X w ρ h p v) : ∃ ad, v = .pointer (some ad) := by
  rcases hp with ⟨i, o, rfl⟩ | ⟨i, g, z, k, o, rfl⟩ | ⟨t, x, o, rfl⟩ <;> cases hv <;> exact ⟨_, rfl⟩
theorem ptr_add {i o n : Nat} {ad : Addr} (hv : VR X w ρ h (.ptr i o) (.pointer (some ad))) : VR X w ρ h (.ptr i (o + n)) (.pointer (some (ad.add n))) := by
  cases hv with
  | ptr hr => rw [add_plain]; exact .ptr hr
theorem eptr_add {i g z k o n : Nat} {ad : Addr} (hv : VR X w ρ h (.eptr i g z k o) (.pointer (some ad))) : VR X w ρ h (.eptr i g z k (o + n)) (.pointer (some (ad.add n))) := by
  cases hv with
  | eptr he hg ha =>
    refine .eptr he hg (fun t e nl l hl => ?_)
    obtain ⟨b, m, cap, h1, rfl⟩ := ha t e nl l hl
    exact ⟨b, m, cap, h1, by rw [add_plain]; congr 1; omega⟩
theorem ro_add {t : Ty} {x : t.den} {o n : Nat} {ad : Addr} (hv : VR X w ρ h (.ro t x o) (.pointer (some ad))) : VR X w ρ h (.ro t x (o + n)) (.pointer (some (ad.add n))) := by
  cases hv with
  | ro hO hb hc hr =>
    refine .ro (by rw [add_block]; exact hO) (by rw [add_block]; exact hb) (fun j v hv => ?_) hr
    rw [Go.Deep.add_add]
    exact hc (n + j) v (by rw [← hv]; congr 1; omega)
theorem fieldAddr_res (hT : TabOK P T) {s : TypeId} {f : Nat} {x : AV} {v : Value} {K : AV → Option R} {r : R} (hv : VR X w ρ h x v)
    (hk : fieldAddrK T s f x K = some r) : ResV X w ρ h P (Instr.fieldAt s v f) K r := by
  unfold fieldAddrK at hk
  split at hk
  · rename_i off j hf
    obtain ⟨fs, fd, hu, hfd, rfl, hj⟩ := fieldOf_some hT hf
    cases hz : Nat.beq j.size 0 with
    | true => rw [hz] at hk; simp at hk
    | false =>
      rw [hz] at hk
      simp only [cond_false] at hk
      have hz' : j.size ≠ 0 := Nat.ne_of_beq_eq_false hz
      have hrun : ∀ ad : Addr, (Instr.fieldAt s (.pointer (some ad)) f).run P w = .ok (.pointer (some (ad.add fd.offset))) w := fun ad => by
        simp [Instr.fieldAt, run_underlying hu, hfd, Instr.sureAddr, fieldPlace, run_sizeOf hT hj, hz']
      cases x with
      | ptr =>
        obtain ⟨ad, rfl⟩ := ptr_inv (.inl ⟨_, _, rfl⟩) hv
        exact resv hk (hrun ad) (ptr_add hv)
      | eptr =>
        obtain ⟨ad, rfl⟩ := ptr_inv (.inr (.inl ⟨_, _, _, _, _, rfl⟩)) hv
        exact resv hk (hrun ad) (eptr_add hv)
      | ro =>
        obtain ⟨ad, rfl⟩ := ptr_inv (.inr (.inr ⟨_, _, _, rfl⟩)) hv
        exact resv hk (hrun ad) (ro_add hv)
      | _ => simp [addrAdd] at hk
  · simp at hk
theorem field_res (hT : TabOK P T) {s : TypeId} {f : Nat} {x : AV} {v : Value} {K : AV → Option R} {r : R} (hv : VR X w ρ h x v)
    (hk : fieldK T s f x K = some r) : ResV X w ρ h P (Instr.field s v f) K r := by
  unfold fieldK at hk
  cases hf : fieldOf T s f with
  | none => rw [hf] at hk; simp at hk
  | some p =>
    obtain ⟨off, j⟩ := p
    rw [hf] at hk
    cases x with
    | agg cs =>
    simp only at hk
    obtain ⟨fs, fd, hu, hfd, rfl, hj⟩ := fieldOf_some hT hf
    obtain ⟨vs, rfl, hl, hh⟩ := inv_agg hv
    obtain ⟨av, u, h1, h2, h3⟩ := part_of hT hj hl hh hk
    exact ⟨av, u, h1, by simp [Instr.field, run_underlying hu, hfd, asAgg, h2], h3⟩
    | _ => simp at hk
theorem load_res (hT : TabOK P T) (hh : HeapR X w ρ base h) {t : TypeId} {i : Inf} (ht : T t = some i) {x : AV} {v : Value} {K : AV → Option R} {r : R} (hv : VR X w ρ h x v)
    (hk : (behindK h x fun cs => partK i cs K) = some r) : ResV X w ρ h P (Instr.loadAt t v) K r := by
  obtain ⟨cs, ad, h1, rfl, hc⟩ := behind_sound hh hv hk
  obtain ⟨av, u, h2, h3, h4⟩ := part_load hT ht hc h1
  exact ⟨av, u, h2, by simp [Instr.loadAt, Instr.sureAddr, h3], h4⟩
theorem index_str {t : TypeId} {s : ByteArray} {i : Int} {ki : IntKind} {K : AV → Option R} {r : R} (hu : P.underlying t = some .string)
    (hk : (bif decide (0 ≤ i) && decide (i < sizeI s) then K (.int .u8 (bt s i)) else none) = some r) : ResV X w ρ h P (Instr.index t (.string s) (.int ki i)) K r := by
  have h2 := cond_some hk
  obtain ⟨hc, hk'⟩ := h2
  simp only [Bool.and_eq_true, decide_eq_true_eq, sizeI_eq] at hc
  have hlt : i.toNat < s.size := by omega
  refine resv hk' ?_ (int_of (a := bt s i) rfl)
  have hg : s[i.toNat]? = some (s[i.toNat]'hlt) := getElem?_pos s i.toNat hlt
  simp [Instr.index, asIntOf, run_underlying hu, hc.1, hg, bt, hlt]
theorem index_arr (hT : TabOK P T) {t e : TypeId} {n : Nat} {k : Inf} (hu : P.underlying t = some (.array n e)) (he : T e = some k) {x : AV} {cs : List AV} {v : Value} (hx : x = .agg cs) (hv : VR X w ρ h x v) {i : Int} {ki : IntKind} {K : AV → Option R} {r : R}
    (hk : (pickIdx n 0 i fun q => partK k (cs.drop (q * k.size)) K) = some r) : ResV X w ρ h P (Instr.index t v (.int ki i)) K r := by
  subst hx
  obtain ⟨j, h1, h2, h3⟩ := pick_sound n 0 i _ r hk
  rw [Nat.zero_add] at h1 h3
  obtain ⟨vs, rfl, hl, hh⟩ := inv_agg hv
  obtain ⟨av, u, h4, h5, h6⟩ := part_of hT he hl hh h3
  refine ⟨av, u, h4, ?_, h6⟩
  have hc : 0 ≤ i ∧ i < (n : Int) := by omega
  have ht : i.toNat = j := by omega
  have hj : (j : Int) < (n : Int) := by omega
  subst h1
  simp [Instr.index, asIntOf, run_underlying hu, hj, run_sizeOf hT he, h5]
  intro hx; omega
theorem indexAddr_arr (hT : TabOK P T) {t e : TypeId} {n : Nat} {k : Inf} (hu : P.underlying t = some (.array n e)) (he : T e = some k) {x : AV} {v : Value} (hv : VR X w ρ h x v) {i : Int} {ki : IntKind} {K : AV → Option R} {r : R}
    (hk : (bif Nat.ble 2 n then pickIdx n 0 i fun q => addrAdd x (q * k.size) K else none) = some r) : ResV X w ρ h P (Instr.indexAt t v (.int ki i)) K r := by
  have h2 := cond_some hk
  clear hk
  obtain ⟨hc, hk⟩ := h2
  have hc := Nat.le_of_ble_eq_true hc
  obtain ⟨j, h1, h2, h3⟩ := pick_sound n 0 i _ r hk
  rw [Nat.zero_add] at h1 h3
  have hj : (j : Int) < (n : Int) := by omega
  have hn : decide (n ≤ 1) = false := by simp; omega
  subst h1
  have hrun : ∀ ad : Addr, (Instr.indexAt t (.pointer (some ad)) (.int ki (j : Int))).run P w = .ok (.pointer (some (ad.add (j * k.size)))) w := fun ad => by
    simp [Instr.indexAt, asIntOf, run_underlying hu, Instr.sureAddr, hj, run_sizeOf hT he]
    intro hx; omega
  cases x with
  | ptr =>
    obtain ⟨ad, rfl⟩ := ptr_inv (.inl ⟨_, _, rfl⟩) hv
    exact resv h3 (hrun ad) (ptr_add hv)
  | eptr =>
    obtain ⟨ad, rfl⟩ := ptr_inv (.inr (.inl ⟨_, _, _, _, _, rfl⟩)) hv
    exact resv h3 (hrun ad) (eptr_add hv)
  | ro =>
    obtain ⟨ad, rfl⟩ := ptr_inv (.inr (.inr ⟨_, _, _, rfl⟩)) hv
    exact resv h3 (hrun ad) (ro_add hv)
  | _ => simp [addrAdd] at h3
theorem indexAddr_sl (hT : TabOK P T) {t e : TypeId} {k : Inf} (hu : P.underlying t = some (.slice e)) (he : T e = some k) {τ : Ty} {nl : Bool} {l : List τ.den} {v : Value} (hv : VR X w ρ h (.sl τ nl l) v) {i : Int} {ki : IntKind} {K : AV → Option R} {r : R}
    (hk : (bif Nat.beq τ.size k.size && decide (0 ≤ i) then optb l[i.toNat]? fun y => K (.ro τ y 0) else none) = some r) : ResV X w ρ h P (Instr.indexAt t v (.int ki i)) K r := by
  have h2 := cond_some hk
  clear hk
  obtain ⟨hc, hk⟩ := h2
  rw [Bool.and_eq_true] at hc
  have hsz := Nat.eq_of_beq_eq_true hc.1
  have h0 : 0 ≤ i := by simpa using hc.2
  obtain ⟨y, hy, hk⟩ := optb_some hk
  have hr := inv_sl hv
  simp only [RC] at hr
  obtain ⟨a, cap, e1, hn, hl, hz, hel⟩ := hr
  simp only [List.cons.injEq, and_true] at e1
  subst e1
  obtain ⟨ad, c, rfl, hO, hc', hr⟩ := hel _ y hy
  have hlt : i.toNat < l.length := (List.getElem?_eq_some_iff.1 hy).1
  have hi : i < (l.length : Int) := by omega
  refine resv hk (v := .pointer (some (ad.add (i.toNat * k.size)))) ?_ ?_
  · simp [Instr.indexAt, asIntOf, run_underlying hu, h0, hi, run_sizeOf hT he]
  · have hpos := τ.size_pos
    have hlen := RC_length τ _ _ hr
    have hb : ad.block < w.heap.size := by
      have := hc' 0 (c[0]'(by omega)) (by simp [hlen, hpos])
      have := World.block_lt_of_cell? w _ this
      simpa [add_block] using this
    refine .ro (by rw [add_block]; exact hO) (by rw [add_block]; exact hb) (fun j v hv => ?_) hr
    rw [Go.Deep.add_add, ← hsz]
    exact hc' j v (by simpa using hv)
theorem indexAddr_bs (hT : TabOK P T) {t e : TypeId} {k : Inf} (hu : P.underlying t = some (.slice e)) (he : T e = some k) {id off n cap : Nat} {v : Value} (hv : VR X w ρ h (.bs id off n cap) v) {i : Int} {ki : IntKind} {K : AV → Option R} {r : R}
    (hk : (bif decide (0 ≤ i) && decide (i < (n : Int)) then K (.ptr id (off + i.toNat * k.size)) else none) = some r) : ResV X w ρ h P (Instr.indexAt t v (.int ki i)) K r := by
  have h2 := cond_some hk
  clear hk
  obtain ⟨hc, hk⟩ := h2
  simp only [Bool.and_eq_true, decide_eq_true_eq] at hc
  obtain ⟨h0, hlt⟩ := hc
  cases hv with
  | @bs _ b _ _ _ hr =>
    refine resv hk (v := .pointer (some ((⟨b, off, none⟩ : Addr).add (i.toNat * k.size)))) ?_ ?_
    · simp [Instr.indexAt, asIntOf, run_underlying hu, h0, hlt, run_sizeOf hT he]
    · rw [add_plain]; exact .ptr hr
theorem indexAddr_own (hT : TabOK P T) (hh : HeapR X w ρ base h) {t e : TypeId} {k : Inf} (hu : P.underlying t = some (.slice e)) (he : T e = some k) {id g : Nat} {v : Value} (hv : VR X w ρ h (.own id g) v) {i : Int} {ki : IntKind} {K : AV → Option R} {r : R}
    {τ : Ty} {ty : TypeId} {nl : Bool} {g' : Nat} {l : List τ.den} (hi : h[id]? = some (.lst τ ty nl g' l))
    (hk : (bif Nat.beq τ.size k.size && Nat.beq g g' && decide (0 ≤ i) && decide (i < lenI l) then K (.eptr id g τ.size i.toNat 0) else none) = some r) : ResV X w ρ h P (Instr.indexAt t v (.int ki i)) K r := by
  have h2 := cond_some hk
  clear hk
  obtain ⟨hc, hk⟩ := h2
  simp only [Bool.and_eq_true, decide_eq_true_eq, lenI_eq] at hc
  obtain ⟨⟨⟨hc1, hc2⟩, h0⟩, hlt⟩ := hc
  have hsz := Nat.eq_of_beq_eq_true hc1
  obtain rfl := Nat.eq_of_beq_eq_true hc2
  cases hv with
  | own hx hg ha hs =>
    obtain ⟨r', hr, hher⟩ := hh.ent _ _ hi
    have ha1 := ha _ _ _ _ hi
    obtain rfl := Option.some.inj (hr.symm.trans ha1)
    cases hher with
    | lst _ how hn hel =>
      rcases how with ⟨hz, _, _, rfl⟩ | ⟨b, cap, cur, ty, fz, rfl, how⟩
      · omega
      · refine resv hk (v := .pointer (some ((⟨b, 0, none⟩ : Addr).add (i.toNat * k.size)))) ?_ ?_
        · simp [Instr.indexAt, asIntOf, run_underlying hu, h0, hlt, run_sizeOf hT he]
        · refine .eptr hx hg (fun t' e' nl' l' hl' => ?_)
          have ha2 := ha _ _ _ _ hl'
          exact ⟨b, _, cap + 1, ha2, by rw [add_plain, hsz]; congr 1; omega⟩
theorem asI_bound {lo : Option AV} {lov : Option Value} (hlo : ∀ a, lo = some a → ∃ v, lov = some v ∧ VR X w ρ h a v) (hn : lo = none → lov = none) {d a : Int} (ha : asI lo d = some a) : (lov = none ∧ a = d) ∨ ∃ k, lov = some (.int k a) := by
  unfold asI at ha
  split at ha
  · obtain rfl := Option.some.inj ha; exact .inl ⟨hn rfl, rfl⟩
  · obtain rfl := Option.some.inj ha
    obtain ⟨v, hv, hr⟩ := hlo _ rfl
    rw [inv_int hr] at hv
    exact .inr ⟨_, hv⟩
  · simp at ha
theorem run_bounds {b : Bool} {len cap : Nat} {lo hi : Option Value} {l u : Int} (hlo : (lo = none ∧ l = 0) ∨ ∃ k, lo = some (.int k l)) (hhi : (hi = none ∧ u = (len : Int)) ∨ ∃ k, hi = some (.int k u)) (h0 : 0 ≤ l) (h1 : l ≤ u) (h2 : u ≤ (len : Int)) (h3 : len ≤ cap) :
    (Instr.sliceBounds b len cap lo hi none).run P w = .ok (l.toNat, u.toNat, cap) w := by
  have hu0 : 0 ≤ u := by omega
  have huc : u ≤ (cap : Int) := by omega
  have hl1 : l ≤ (u.toNat : Int) := by omega
  rcases hhi with ⟨rfl, rfl⟩ | ⟨k, rfl⟩ <;> rcases hlo with ⟨rfl, rfl⟩ | ⟨k', rfl⟩ <;>
    simp [Instr.sliceBounds, Instr.sliceBound, asIntOf, h0, h1, hu0, huc, hl1] <;> (intro hx; omega)
end
end Go.Proofs.YtibdnfknokkadaaDoor.Ev
