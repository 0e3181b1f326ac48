/- Stores, new variables, new slices. -/
import Derived.Test.YtibdnfknokkadaaDoorEvOpD
set_option linter.unusedVariables false
set_option linter.unusedSimpArgs false
namespace Go.Proofs.YtibdnfknokkadaaDoor.Ev
open Go Go.RowKit
variable {X : Nat → Prop}

section
variable {R : Type} {w : World} {ρ : Rho} {base : Nat} {h : List HE} {P : Program} {T : Tab}
theorem splice_get {α : Type} (xs vs : List α) (p q : Nat) (hp : p + vs.length ≤ xs.length) :
    (xs.take p ++ vs ++ xs.drop (p + vs.length))[q]? = if q < p then xs[q]? else if q < p + vs.length then vs[q - p]? else xs[q]? := by
  have h1 : (xs.take p).length = p := by rw [List.length_take]; omega
  by_cases hq : q < p
  · rw [if_pos hq, List.append_assoc, List.getElem?_append_left (by omega), List.getElem?_take, if_pos hq]
  · rw [if_neg hq]
    by_cases hq' : q < p + vs.length
    · rw [if_pos hq', List.append_assoc, List.getElem?_append_right (by omega), h1, List.getElem?_append_left (by omega)]
    · rw [if_neg hq', List.getElem?_append_right (by simp; omega), List.getElem?_drop]
      congr 1
      simp; omega
theorem splice_length {α : Type} (xs vs : List α) (p : Nat) (hp : p + vs.length ≤ xs.length) : (xs.take p ++ vs ++ xs.drop (p + vs.length)).length = xs.length := by simp; omega
theorem VRs.splice {cs : List AV} {xs : List Value} {as : List AV} {vs : List Value} (h1 : VRs X w ρ h cs xs) (h2 : VRs X w ρ h as vs) (p : Nat) : VRs X w ρ h (cs.take p ++ as ++ cs.drop (p + as.length)) (xs.take p ++ vs ++ xs.drop (p + vs.length)) := by
  rw [← h2.1]
  exact ((h1.take p).append h2).append (h1.drop _)

theorem OpS.unit (hh : HeapR X w ρ base h) {s : Sem Unit} {w' : World} {u : Upd} {K : OK R} {r : R} (hs : s.run P w = .ok () w') (hk : K .junk u = some r)
    (hd : ∃ ρ', HeapR X w' ρ' base (applyU u h) ∧ Fwd X w ρ h w' ρ' (applyU u h) ∧ Below base w w') : OpS X base w ρ h ((do s; pure Next.skip : Sem Next).run P w) K r := by
  obtain ⟨ρ', h1, h2, h3⟩ := hd
  exact ⟨.junk, u, undef, w', hk, .inr ⟨by simp only [Sem.run_bind, hs, Result.andThen_ok, Sem.run_pure], rfl⟩, ⟨ρ', h1, .junk _, h2, h3⟩⟩
theorem below_setRow {base : Nat} {n : Nat} (hn : base ≤ n) (cs : Array Value) : Below base w (w.setRow n cs) :=
  of_Below rfl rfl rfl (by simp [World.setRow]) (fun k hk => setRow_other w n k cs (by omega)) (Nat.le_refl _)
theorem setRow_size (w : World) (n : Nat) (cs : Array Value) : (w.setRow n cs).heap.size = w.heap.size := by simp [World.setRow]

theorem RC_one {O : Nat → Prop} {w : World} : ∀ (t : Ty) (x : t.den) (c : List Value), RC O w t x c → ∀ u ∈ c, u.oneCell' = true
  | .int _, _, _, h => by simp only [RC] at h; subst h; simp [Value.oneCell']
  | .bool, _, _, h => by simp only [RC] at h; subst h; simp [Value.oneCell']
  | .str, _, _, h => by simp only [RC] at h; subst h; simp [Value.oneCell']
  | .sl _, _, _, h => by simp only [RC] at h; obtain ⟨a, cap, rfl, _⟩ := h; simp [Value.oneCell']
  | .pair a b, x, _, h => by
    simp only [RC] at h
    obtain ⟨c1, c2, rfl, h1, h2⟩ := h
    intro u hu
    rcases List.mem_append.1 hu with hu | hu
    · exact RC_one a _ _ h1 u hu
    · exact RC_one b _ _ h2 u hu
theorem cells_own : ∀ (t : Ty) (x : t.den) (i g : Nat), AV.own i g ∉ t.cells x
  | .int _, _, _, _ => by simp [Ty.cells]
  | .bool, _, _, _ => by simp [Ty.cells]
  | .str, _, _, _ => by simp [Ty.cells]
  | .sl _, _, _, _ => by simp [Ty.cells]
  | .pair a b, x, i, g => by simp only [Ty.cells, List.mem_append, not_or]; exact ⟨cells_own a _ i g, cells_own b _ i g⟩

theorem run_storeCells_mk (g o : Nat) (t : TypeId) (fz : Nat × Nat) : ∀ (vs : List Value) (i : Nat) (cur : Array Value) (w : World), w.heap[g]? = some (.cells cur t fz) → (fz.1 = 0 ∧ fz.2 = 0 ∨ cur.size ≤ fz.1) → o + i + vs.length ≤ cur.size → (∀ v ∈ vs, v.oneCell' = true) →
    (storeCells ⟨g, o, none⟩ vs i).run P w = .ok () (w.setRow g (cur.toList.take (o + i) ++ vs ++ cur.toList.drop (o + i + vs.length)).toArray)
  | [], i, cur, w, hg, _, _, _ => by
    simp only [storeCells, List.append_nil, List.length_nil, Nat.add_zero, List.take_append_drop, Array.toArray_toList]
    rw [setRow_self w g cur t fz hg]
    rfl
  | v :: rest, i, cur, w, hg, hz, hl, h1 => by
    have hi : o + i < cur.size := by simp at hl; omega
    have hcell : w.cell? ⟨g, o + i, none⟩ = some cur[o + i] := by simp [World.cell?, hg, hi]
    have hfro : w.frozen? ⟨g, o + i, none⟩ = false := by
      simp only [World.frozen?, hg]
      rcases hz with ⟨h1, h2⟩ | h1
      · simp [h2]
      · have : ¬ fz.1 ≤ o + i := by omega
        simp [this]
    have hst : (store ((⟨g, o, none⟩ : Addr).add i) v).run P w = .ok () (w.setRow g (cur.setIfInBounds (o + i) v)) := by
      rw [add_plain, run_store P w _ v _ (h1 v (by simp)), hcell]
      simp [hfro, setCell_eq_setRow w g (o + i) cur t fz v hg]
    have ih := run_storeCells_mk g o t fz rest (i + 1) (cur.setIfInBounds (o + i) v) (w.setRow g (cur.setIfInBounds (o + i) v)) (setRow_heap w g cur _ t _ hg) (by simpa using hz) (by simp at hl ⊢; omega) (fun x hx => h1 x (by simp [hx]))
    simp only [storeCells, Sem.run_bind, hst, Result.andThen_ok, ih, setRow_setRow]
    congr 3
    have e := list_seg_step cur.toList (o + i) v rest (by simp at hl ⊢; omega)
    simpa [Array.toList_setIfInBounds, Nat.add_assoc] using e
theorem run_storeVar (hT : TabOK P T) {t : TypeId} {i : Inf} (ht : T t = some i) {v : Value} (hs : v.cells.size = i.size) {n o : Nat} {cur : Array Value} {ty : TypeId} {fz : Nat × Nat} (hg : w.heap[n]? = some (.cells cur ty fz)) (hz : fz.1 = 0 ∧ fz.2 = 0 ∨ cur.size ≤ fz.1)
    (hl : o + v.cells.toList.length ≤ cur.size) (h1 : ∀ u ∈ v.cells.toList, u.oneCell' = true) :
    (Instr.storeAt t (.pointer (some ⟨n, o, none⟩)) v).run P w = .ok () (w.setRow n (cur.toList.take o ++ v.cells.toList ++ cur.toList.drop (o + v.cells.toList.length)).toArray) := by
  have := run_storeCells_mk (P := P) n o ty fz v.cells.toList 0 cur w hg hz (by simpa using hl) h1
  simp only [Instr.storeAt, Instr.sureAddr, storeVar, Sem.run_bind, Sem.run_pure, Result.andThen_ok, run_sizeOf hT ht, hs]
  simpa using this

theorem inv_eptr {i g sz k off : Nat} {v : Value} (hv : VR X w ρ h (.eptr i g sz k off) v) : ∃ ad, v = .pointer (some ad) ∧ (∃ e : HE, h[i]? = some e ∧ g ≤ e.ver) ∧ 1 ≤ g ∧
    ∀ (t : Ty) (e : TypeId) (nl : Bool) (l : List t.den), h[i]? = some (.lst t e nl g l) → ∃ b n cap, ρ[i]? = some (.s (.slice (some ⟨b, 0, none⟩) n cap)) ∧ ad = ⟨b, k * sz + off, none⟩ := by
  cases hv with
  | eptr he hg ha => exact ⟨_, rfl, he, hg, ha⟩
theorem memN_true {ks : List Nat} {i : Nat} : memN ks i = true ↔ i ∈ ks := by
  induction ks with
  | nil => simp [memN]
  | cons k r ih =>
    simp only [memN, List.mem_cons]
    cases h : Nat.beq k i
    · have : k ≠ i := Nat.ne_of_beq_eq_false h
      simp [ih, Ne.symm this]
    · have : k = i := Nat.eq_of_beq_eq_true h
      simp [this]
theorem idsOf_mem {cs : List AV} {i g : Nat} : AV.own i g ∈ cs → i ∈ idsOf cs := by
  induction cs with
  | nil => simp
  | cons c r ih =>
    intro h
    simp only [idsOf, List.mem_append]
    rcases List.mem_cons.1 h with rfl | h
    · exact .inl (by simp [AV.idOf])
    · exact .inr (ih h)
theorem store_ptr (hT : TabOK P T) (hh : HeapR X w ρ base h) (hb : base ≤ w.heap.size) {t : TypeId} {i : Inf} (ht : T t = some i) {id off : Nat} {x : AV} {va vx : Value} {K : OK R} {r : R} (ha : VR X w ρ h (.ptr id off) va) (hx : VR X w ρ h x vx)
    (hsz : x.flat.length = i.size) (hk : storeK h (.ptr id off) x.flat K = some r) : OpS X base w ρ h ((do Instr.storeAt t va vx; pure Next.skip : Sem Next).run P w) K r := by
  cases ha with
  | @ptr _ b _ hr =>
    simp only [storeK] at hk
    split at hk
    · rename_i cs hi
      have h2 := cond_some hk
      clear hk
      obtain ⟨hc, hk⟩ := h2
      rw [Bool.and_eq_true] at hc
      have hle := Nat.le_of_ble_eq_true hc.1
      obtain ⟨hvs, hone⟩ := flat_sound hc.2 hx
      obtain ⟨r', hr', hher⟩ := hh.ent _ _ hi
      obtain rfl := Option.some.inj (hr.symm.trans hr')
      cases hher with
      | @blk _ _ cur ty hbk hl hcs =>
        have hlen : x.flat.length = vx.cells.toList.length := hvs.1
        have hlr : b < w.heap.size := (Array.getElem?_eq_some_iff.1 hbk).1
        have hbase : base ≤ b := (hh.lo _ _ b hr rfl).1
        have hcur : VRs X w ρ h cs cur.toList := ⟨by simp [hl], fun i c v hc hv => hcs i c v hc (by simpa using hv)⟩
        have hle2 : off + vx.cells.toList.length ≤ cur.toList.length := by
          have h3 : cur.toList.length = cs.length := by simp [hl]
          omega
        refine OpS.unit hh (run_storeVar hT ht (by rw [← hsz, hlen]; simp) hbk (.inl ⟨rfl, rfl⟩) (by rw [hl, ← hlen]; exact hle) hone) hk ?_
        obtain ⟨g1, g2, _, _⟩ := set_entry hh hi hr (e := .blk (cs.take off ++ x.flat ++ cs.drop (off + x.flat.length))) (rl := .b b)
          (w' := w.setRow b (cur.toList.take off ++ vx.cells.toList ++ cur.toList.drop (off + vx.cells.toList.length)).toArray) hb (by rw [setRow_size]; exact Nat.le_refl _)
          (fun k _ hne => setRow_other w b k _ (fun e => hne (by rw [e]; rfl))) (fun n hn => ⟨.inl hn, by rw [setRow_size]; exact (hh.lo _ _ n hr hn).2⟩) (Nat.le_refl _) (fun _ _ _ _ _ he => by cases he)
          (fun _ he => he) (fun f => .blk (setRow_heap w b cur _ ty _ hbk) (by
            have := splice_length cur.toList vx.cells.toList off hle2
            have h2 := splice_length cs x.flat off hle
            rw [List.size_toArray, this, h2, Array.length_toList, hl]) (fun j c v hc hv => VR_fwd f ((hcur.splice hvs off).2 j c v hc (by simpa using hv))))
        exact ⟨_, g1, g2, below_setRow hbase _⟩
    · simp at hk

theorem store_eptr (hT : TabOK P T) (hh : HeapR X w ρ base h) (hb : base ≤ w.heap.size) {t : TypeId} {i : Inf} (ht : T t = some i) {id g sz k off : Nat} {x : AV} {va vx : Value} {K : OK R} {r : R} (ha : VR X w ρ h (.eptr id g sz k off) va) (hx : VR X w ρ h x vx)
    (hsz : x.flat.length = i.size) (hk : storeK h (.eptr id g sz k off) x.flat K = some r) : OpS X base w ρ h ((do Instr.storeAt t va vx; pure Next.skip : Sem Next).run P w) K r := by
  obtain ⟨ad, rfl, he, hg, ha'⟩ := inv_eptr ha
  simp only [storeK] at hk
  split at hk
  · rename_i τ e nl g' l hi
    have h2 := cond_some hk
    clear hk
    obtain ⟨hc, hk⟩ := h2
    simp only [Bool.and_eq_true, Bool.not_eq_true'] at hc
    obtain ⟨⟨⟨⟨hc1, hc2⟩, hc3⟩, hc4⟩, hc5⟩ := hc
    obtain rfl := Nat.eq_of_beq_eq_true hc1
    obtain rfl := Nat.eq_of_beq_eq_true hc2
    have hle := Nat.le_of_ble_eq_true hc4
    obtain ⟨hvs, hone⟩ := flat_sound hc3 hx
    have hlen : x.flat.length = vx.cells.toList.length := hvs.1
    obtain ⟨y, hy, hk⟩ := optb_some hk
    obtain ⟨y', hy', hk⟩ := optb_some hk
    obtain ⟨r', hr', hher⟩ := hh.ent _ _ hi
    obtain ⟨b, n0, cap, hr, rfl⟩ := ha' _ _ _ _ hi
    obtain rfl := Option.some.inj (hr.symm.trans hr')
    have hkl : k < l.length := (List.getElem?_eq_some_iff.1 hy).1
    -- what is given up
    have hnid : ∀ g, AV.own id g ∉ x.flat := fun g hm => by
      have : memN (idsOf x.flat) id = true := memN_true.2 (idsOf_mem hm)
      rw [this] at hc5; simp at hc5
    have hmid : ∀ j q, AV.own j q ∈ (τ.cells y).take off ++ x.flat ++ (τ.cells y).drop (off + x.flat.length) → AV.own j q ∈ x.flat := fun j q hm => by
      simp only [List.mem_append] at hm
      rcases hm with (hm | hm) | hm
      · exact absurd (List.mem_of_mem_take hm) (cells_own τ y j q)
      · exact hm
      · exact absurd (List.mem_of_mem_drop hm) (cells_own τ y j q)
    have hmid' : ∀ j q, AV.own j q ∈ x.flat → AV.own j q ∈ (τ.cells y).take off ++ x.flat ++ (τ.cells y).drop (off + x.flat.length) := fun j q hm => by
      simp only [List.mem_append]; exact .inl (.inr hm)
    obtain ⟨ρ1, hh1, f1, hsame, hd⟩ := freeze_sound x.flat hh hb (fun j q hm => closeAll_now hy' j q (hmid' j q hm))
    have hno := freeze_no hh (fun i hi => (hsame i hi).1) hd
    have hi1 : (applyU (freeze x.flat) h)[id]? = some (.lst τ e nl g l) := by rw [(hsame id hnid).2]; exact hi
    have hr1 : ρ1[id]? = some (.s (.slice (some ⟨b, 0, none⟩) n0 cap)) := by rw [(hsame id hnid).1]; exact hr
    obtain ⟨r1, hr1', hher1⟩ := hh1.ent _ _ hi1
    obtain rfl := Option.some.inj (hr1.symm.trans hr1')
    cases hher with
    | @lst _ _ _ _ _ _ xs _ how hn hel =>
      have hrc0 := hel k y hy
      have hcells := RC_cells (hh := h) τ y _ hrc0
      have hnew := hcells.splice hvs off
      obtain ⟨hrcn, _⟩ := closeAll_sound hh (O' := owned X ρ1) (fun q ho => f1.own q (by
        rcases ho with hX | ⟨r, hrm, hrn⟩
        · have := hh.ext q hX; omega
        obtain ⟨j, hj⟩ := List.mem_iff_getElem?.1 hrm
        exact (hh1.lo j r q hj hrn).2) ho) hy' (fun j q hm r n hr hn => hno j q (hmid j q hm) r n hr hn) hnew
      have hxl := how.len
      rcases how with ⟨hz, _, _⟩ | ⟨b', cap', cur, tyr, fz, he', how⟩
      · omega
      · have hgg := how.here
        have hnc := how.num
        have hcs := how.len
        have htake := how.tk
        have hbb := how.lo
        simp only [Value.slice.injEq, Option.some.injEq, Addr.mk.injEq, and_true] at he'
        obtain ⟨rfl, rfl, rfl⟩ := he'
        have hposk : k * τ.size + τ.size ≤ l.length * τ.size := by
          have : (k + 1) * τ.size ≤ l.length * τ.size := Nat.mul_le_mul_right _ hkl
          rwa [Nat.succ_mul] at this
        have hcap : l.length * τ.size ≤ (cap' + 1) * τ.size := Nat.mul_le_mul_right _ hnc
        have hfit : k * τ.size + off + vx.cells.toList.length ≤ cur.size := by rw [hcs]; omega
        have hfit' : k * τ.size + off + vx.cells.toList.length ≤ cur.toList.length := by rw [Array.length_toList]; exact hfit
        have hfx : k * τ.size + off + vx.cells.toList.length ≤ xs.length := by rw [hxl]; omega
        have hbl : b < w.heap.size := (Array.getElem?_eq_some_iff.1 hgg).1
        have hxs : (cur.toList.take (k * τ.size + off) ++ vx.cells.toList ++ cur.toList.drop (k * τ.size + off + vx.cells.toList.length)).take (l.length * τ.size) =
            xs.take (k * τ.size + off) ++ vx.cells.toList ++ xs.drop (k * τ.size + off + vx.cells.toList.length) := by
          apply List.ext_getElem?
          intro q
          rw [List.getElem?_take, splice_get _ _ _ _ hfit', splice_get _ _ _ _ hfx, ← htake]
          simp only [List.getElem?_take]
          by_cases hq : q < l.length * τ.size
          · simp only [hq, if_true]
          · simp only [hq, if_false]
            have h1 : ¬ q < k * τ.size + off := by omega
            have h2 : ¬ q < k * τ.size + off + vx.cells.toList.length := by omega
            rw [if_neg h1, if_neg h2]
        refine OpS.unit hh (run_storeVar hT ht (by rw [← hsz, hlen]; simp) hgg how.free hfit hone) hk ?_
        rw [applyU_append]
        obtain ⟨g1, g2, _, _⟩ := set_entry hh1 hi1 hr1 (e := .lst τ e nl g (l.set k y')) (rl := .s (.slice (some ⟨b, 0, none⟩) l.length (cap' + 1)))
          (w' := w.setRow b (cur.toList.take (k * τ.size + off) ++ vx.cells.toList ++ cur.toList.drop (k * τ.size + off + vx.cells.toList.length)).toArray) hb (by rw [setRow_size]; exact Nat.le_refl _)
          (fun q _ hne => setRow_other w b q _ (fun e => hne (by rw [e]; rfl))) (fun n hn => ⟨.inl hn, by rw [setRow_size]; exact (hh1.lo _ _ n hr1 hn).2⟩) (Nat.le_refl _)
          (fun t' ty' nl' g' l' he => by simp only [HE.lst.injEq] at he; obtain ⟨rfl, rfl, rfl, rfl, he⟩ := he; exact .inr ⟨⟨_, _, _, _, rfl⟩, rfl⟩)
          (fun _ he => by cases he) (fun f => by
            refine .lst hg (xs := xs.take (k * τ.size + off) ++ vx.cells.toList ++ xs.drop (k * τ.size + off + vx.cells.toList.length)) ?_ ?_ ?_
            · rw [List.length_set]
              refine .inr ⟨b, cap', (cur.toList.take (k * τ.size + off) ++ vx.cells.toList ++ cur.toList.drop (k * τ.size + off + vx.cells.toList.length)).toArray, tyr, fz, rfl, ?_⟩
              have := how.write (cur' := (cur.toList.take (k * τ.size + off) ++ vx.cells.toList ++ cur.toList.drop (k * τ.size + off + vx.cells.toList.length)).toArray) (by rw [List.size_toArray, splice_length _ _ _ hfit', Array.length_toList]) (n' := l.length) hnc
              rwa [hxs] at this
            · have hne : l.isEmpty = false := by cases l with | nil => simp at hkl | cons => rfl
              have hne' : (l.set k y').isEmpty = false := by cases l with | nil => simp at hkl | cons a t => cases k <;> rfl
              rw [hne', Bool.and_false]
              simp
            · intro j z hz
              by_cases hjk : k = j
              · subst hjk
                rw [List.getElem?_set_self hkl] at hz
                obtain rfl := Option.some.inj hz
                have e1 : ((xs.take (k * τ.size + off) ++ vx.cells.toList ++ xs.drop (k * τ.size + off + vx.cells.toList.length)).drop (k * τ.size)).take τ.size =
                    ((xs.drop (k * τ.size)).take τ.size).take off ++ vx.cells.toList ++ ((xs.drop (k * τ.size)).take τ.size).drop (off + vx.cells.toList.length) := by
                  apply List.ext_getElem?
                  intro q
                  have hl1 : off + vx.cells.toList.length ≤ ((xs.drop (k * τ.size)).take τ.size).length := by
                    rw [List.length_take, List.length_drop, hxl]; omega
                  rw [List.getElem?_take, List.getElem?_drop, splice_get _ _ _ _ hfx, splice_get _ _ _ _ hl1]
                  simp only [List.getElem?_take, List.getElem?_drop]
                  by_cases hq : q < τ.size
                  · simp only [hq, if_true]
                    by_cases h1 : q < off
                    · rw [if_pos h1, if_pos (by omega)]
                    · rw [if_neg h1, if_neg (by omega)]
                      by_cases h2 : q < off + vx.cells.toList.length
                      · rw [if_pos h2, if_pos (by omega)]; congr 1; omega
                      · rw [if_neg h2, if_neg (by omega)]
                  · simp only [hq, if_false]
                    rw [if_neg (by omega), if_neg (by omega)]
                rw [e1]
                exact RC_fwd f hrcn
              · rw [List.getElem?_set_ne hjk] at hz
                have e1 : ((xs.take (k * τ.size + off) ++ vx.cells.toList ++ xs.drop (k * τ.size + off + vx.cells.toList.length)).drop (j * τ.size)).take τ.size = (xs.drop (j * τ.size)).take τ.size := by
                  apply List.ext_getElem?
                  intro q
                  rw [List.getElem?_take, List.getElem?_take, List.getElem?_drop, List.getElem?_drop, splice_get _ _ _ _ hfx]
                  by_cases hq : q < τ.size
                  · simp only [hq, if_true]
                    by_cases h1 : j * τ.size + q < k * τ.size + off
                    · rw [if_pos h1]
                    · rw [if_neg h1]
                      have : k < j := by
                        rcases Nat.lt_or_ge k j with h | h
                        · exact h
                        · have hjk' : j < k := by omega
                          have : (j + 1) * τ.size ≤ k * τ.size := Nat.mul_le_mul_right _ hjk'
                          rw [Nat.succ_mul] at this
                          omega
                      have : (k + 1) * τ.size ≤ j * τ.size := Nat.mul_le_mul_right _ this
                      rw [Nat.succ_mul] at this
                      rw [if_neg (by omega)]
                  · simp only [hq, if_false]
                rw [e1]
                exact RC_fwd (f1.trans f) (hel j z hz))
        exact ⟨_, g1, f1.trans g2, below_setRow hbb _⟩
  · simp at hk
end
end Go.Proofs.YtibdnfknokkadaaDoor.Ev
