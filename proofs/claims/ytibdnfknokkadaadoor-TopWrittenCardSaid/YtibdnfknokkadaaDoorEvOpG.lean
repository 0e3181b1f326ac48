/- Appends, literals, slices of slices, conversions. -/
import Derived.Test.YtibdnfknokkadaaDoorEvOpF
set_option linter.unusedVariables false
set_option linter.unusedSimpArgs false
namespace Go.Proofs.YtibdnfknokkadaaDoor.Ev
open Go Go.RowKit
variable {X : Nat → Prop}

section
variable {R : Type} {w : World} {ρ : Rho} {base : Nat} {h : List HE} {P : Program} {T : Tab}
/-- A list's cells in one row. -/
theorem flat_cells {O : Nat → Prop} {τ : Ty} {ad : Addr} : ∀ (l : List τ.den) (k : Nat), (∀ i y, l[i]? = some y → ∃ c, (∀ j v, c[j]? = some v → w.cell? (ad.add ((k + i) * τ.size + j)) = some v) ∧ RC O w τ y c) →
    ∃ news : List Value, news.length = l.length * τ.size ∧ (∀ j u, news[j]? = some u → w.cell? (ad.add (k * τ.size + j)) = some u) ∧ (∀ u ∈ news, u.oneCell' = true) ∧
      ∀ i y, l[i]? = some y → RC O w τ y ((news.drop (i * τ.size)).take τ.size)
  | [], k, _ => ⟨[], by simp, by simp, by simp, by simp⟩
  | x :: l, k, hl => by
    obtain ⟨c, hc, hr⟩ := hl 0 x rfl
    have hcl := RC_length τ _ _ hr
    obtain ⟨news, h1, h2, h3, h4⟩ := flat_cells l (k + 1) (fun i y hy => by
      obtain ⟨c, hc, hr⟩ := hl (i + 1) y (by simpa using hy)
      exact ⟨c, fun j v hv => by rw [show k + 1 + i = k + (i + 1) by omega]; exact hc j v hv, hr⟩)
    refine ⟨c ++ news, by rw [List.length_append, hcl, h1, List.length_cons, Nat.succ_mul]; omega, fun j u hu => ?_, fun u hu => ?_, fun i y hy => ?_⟩
    · by_cases hj : j < c.length
      · rw [List.getElem?_append_left hj] at hu
        have := hc j u hu
        simpa using this
      · rw [List.getElem?_append_right (by omega)] at hu
        have := h2 _ u hu
        rw [show k * τ.size + j = (k + 1) * τ.size + (j - c.length) by rw [Nat.succ_mul]; omega]
        exact this
    · rcases List.mem_append.1 hu with hu | hu
      · exact RC_one τ _ _ hr u hu
      · exact h3 u hu
    · cases i with
      | zero =>
        simp at hy
        subst hy
        rw [Nat.zero_mul, List.drop_zero, ← hcl, List.take_left']
        · exact hr
        · rfl
      | succ i =>
        have := h4 i y (by simpa using hy)
        rw [Nat.succ_mul, Nat.add_comm, ← List.drop_drop, ← hcl, List.drop_left', hcl]
        · exact this
        · rfl
theorem sl_elems {O : Nat → Prop} {τ : Ty} {y : Bool × List τ.den} {v : Value} (hr : RC O w (.sl τ) y [v]) :
    ∃ a cap, v = .slice a y.2.length cap ∧ (a = none → cap = 0 ∧ y.2 = []) ∧ ∀ ad, a = some ad → ∃ news : List Value, news.length = y.2.length * τ.size ∧ (∀ j u, news[j]? = some u → w.cell? (ad.add j) = some u) ∧ (∀ u ∈ news, u.oneCell' = true) ∧
      ∀ i z, y.2[i]? = some z → RC O w τ z ((news.drop (i * τ.size)).take τ.size) := by
  simp only [RC] at hr
  obtain ⟨a, cap, e1, hn, hl, hz, hel⟩ := hr
  simp only [List.cons.injEq, and_true] at e1
  refine ⟨a, cap, e1, fun ha => ⟨hz ha, ?_⟩, fun ad ha => ?_⟩
  · subst ha
    have hn : (y.1 && y.2.isEmpty) = true := hn
    rw [Bool.and_eq_true] at hn
    exact List.isEmpty_iff.1 hn.2
  · subst ha
    obtain ⟨news, h1, h2, h3, h4⟩ := flat_cells (w := w) (O := O) (ad := ad) y.2 0 (fun i z hz => by
      obtain ⟨ad', c, he, hO, hc, hr⟩ := hel i z hz
      obtain rfl := Option.some.inj he
      exact ⟨c, fun j u hu => by rw [Nat.zero_add]; exact hc j u hu, hr⟩)
    exact ⟨news, h1, fun j u hu => by have := h2 j u hu; simpa using this, h3, h4⟩
theorem closeSl_elems (hh : HeapR X w ρ base h) {τ : Ty} {x : AV} {y : Bool × List τ.den} {v : Value} (hc : closeSl τ h x = some y) (hv : VR X w ρ h x v) :
    ∃ a cap, v = .slice a y.2.length cap ∧ (a = none → cap = 0 ∧ y.2 = []) ∧ ∀ ad, a = some ad → ∃ news : List Value, news.length = y.2.length * τ.size ∧ (∀ j u, news[j]? = some u → w.cell? (ad.add j) = some u) ∧ (∀ u ∈ news, u.oneCell' = true) ∧
      ∀ i z, y.2[i]? = some z → RC (owned X ρ) w τ z ((news.drop (i * τ.size)).take τ.size) := by
  cases x with
  | sl t' nl l =>
    have hx := hc
    simp only [closeSl] at hx
    split at hx
    · rename_i l' hl
      obtain ⟨e, rfl⟩ := castL_some hl
      subst e
      obtain rfl := Option.some.inj hx
      exact sl_elems (inv_sl hv)
    · simp at hx
  | nils =>
    simp only [closeSl, Option.some.injEq] at hc
    subst hc
    rw [inv_nils hv]
    exact ⟨none, 0, rfl, fun _ => ⟨rfl, rfl⟩, fun ad he => by cases he⟩
  | slz nl =>
    simp only [closeSl, Option.some.injEq] at hc
    subst hc
    cases hv with
    | slz hz =>
      obtain ⟨a, rfl, _⟩ := hz
      exact ⟨a, 0, rfl, fun _ => ⟨rfl, rfl⟩, fun ad he => ⟨[], by simp, by simp, by simp, by simp⟩⟩
  | own i g =>
    simp only [closeSl] at hc
    split at hc
    · rename_i t' e nl g' l hi
      cases hgg : Nat.beq g g' with
      | false => rw [hgg] at hc; simp at hc
      | true =>
        obtain rfl := Nat.eq_of_beq_eq_true hgg
        rw [hgg] at hc
        simp only [cond_true] at hc
        split at hc
        · rename_i l' hl
          obtain ⟨e, rfl⟩ := castL_some hl
          subst e
          obtain rfl := Option.some.inj hc
          obtain ⟨r, hr, hher⟩ := hh.ent _ _ hi
          cases hv with
          | own _ _ ha _ =>
            obtain rfl := Option.some.inj (hr.symm.trans (ha _ _ _ _ hi))
            cases hher with
            | @lst _ _ _ _ _ _ xs _ how hn hel =>
              rcases how with ⟨h0, _, a, rfl⟩ | ⟨b, cap, cur, ty, fz, rfl, how⟩
              · have hl : l = [] := List.eq_nil_of_length_eq_zero h0
                subst hl
                exact ⟨a, 0, rfl, fun _ => ⟨rfl, rfl⟩, fun ad he => ⟨[], by simp, by simp, by simp, by simp⟩⟩
              · refine ⟨_, cap + 1, rfl, fun he => by simp at he, fun ad he => ?_⟩
                obtain rfl := Option.some.inj he
                obtain ⟨news, h1, h2, h3, h4⟩ := flat_cells (w := w) (O := owned X ρ) (ad := ⟨b, 0, none⟩) l 0 (fun i z hz => by
                  refine ⟨_, fun j u hu => ?_, hel i z hz⟩
                  rw [List.getElem?_take] at hu
                  split at hu
                  · rw [List.getElem?_drop] at hu
                    rw [Nat.zero_add]
                    exact how.cells _ u hu
                  · simp at hu)
                exact ⟨news, h1, fun j u hu => by have := h2 j u hu; simpa using this, h3, h4⟩
        · simp at hc
    · simp at hc
  | _ => simp [closeSl] at hc

theorem srcSl_elems (hh : HeapR X w ρ base h) {τ : Ty} {x : AV} {m : List τ.den} {v : Value} (hc : srcSl τ h x = some m) (hv : VR X w ρ h x v) :
    ∃ a cap, v = .slice a m.length cap ∧ (a = none → cap = 0 ∧ m = []) ∧ ∀ ad, a = some ad → ∃ news : List Value, news.length = m.length * τ.size ∧ (∀ j u, news[j]? = some u → w.cell? (ad.add j) = some u) ∧ (∀ u ∈ news, u.oneCell' = true) ∧
      ∀ i z, m[i]? = some z → RC (owned X ρ) w τ z ((news.drop (i * τ.size)).take τ.size) := by
  unfold srcSl at hc
  split at hc
  · rename_i i g z k n
    split at hc
    · rename_i t e nl g' l hi
      have h2 := cond_some hc
      clear hc
      obtain ⟨hb, hc⟩ := h2
      rw [Bool.and_eq_true] at hb
      split at hc
      · rename_i l0 hl0
        obtain ⟨et, rfl⟩ := castL_some hl0
        subst et
        obtain rfl := Nat.eq_of_beq_eq_true hb.1
        obtain rfl := Nat.eq_of_beq_eq_true hb.2
        obtain rfl := Option.some.inj hc
        obtain ⟨rl, hrl, hher⟩ := hh.ent _ _ hi
        cases hv with
        | vw he h0 ha =>
          obtain ⟨a, m, c, a', hr, hv, hle, had, hnn⟩ := ha _ _ _ _ hi
          obtain rfl := Option.some.inj (hrl.symm.trans hr)
          cases hher with
          | @lst _ _ _ _ _ _ xs hg how hn hel =>
            obtain ⟨a0, c0, e0, hlc⟩ := how.sl
            simp only [Value.slice.injEq] at e0
            obtain ⟨rfl, rfl, rfl⟩ := e0
            have hml : ((l.drop k.toNat).take n.toNat).length = n.toNat := by rw [List.length_take, List.length_drop]; omega
            refine ⟨a', c - k.toNat, by rw [hml]; exact hv, fun ha' => ?_, fun ad hA => ?_⟩
            · subst ha'
              have : a = none := by cases a with | none => rfl | some _ => simp at hnn
              subst this
              rcases how with ⟨hl0, _, ax, hax⟩ | ⟨b, c', cur, tyr, fz, he', row⟩
              · simp only [Value.slice.injEq] at hax
                exact ⟨by omega, List.eq_nil_of_length_eq_zero (by rw [hml]; omega)⟩
              · simp at he'
            · by_cases hn0 : n.toNat = 0
              · have hmn : (l.drop k.toNat).take n.toNat = [] := List.eq_nil_of_length_eq_zero (by rw [hml]; exact hn0)
                rw [hmn]
                exact ⟨[], by simp, by simp, by simp, by simp⟩
              · rcases how with ⟨hl0, _, _⟩ | ⟨b, c', cur, tyr, fz, he', row⟩
                · omega
                · simp only [Value.slice.injEq, true_and] at he'
                  obtain ⟨rfl, rfl⟩ := he'
                  have hA' := had (by omega)
                  rw [hA'] at hA
                  simp only [Option.map_some, Option.some.injEq] at hA
                  subst hA
                  obtain ⟨news, h1, h2, h3, h4⟩ := flat_cells (w := w) (O := owned X ρ) (ad := ⟨b, 0, none⟩) ((l.drop k.toNat).take n.toNat) k.toNat (fun i z hz => by
                    rw [List.getElem?_take] at hz
                    split at hz
                    · rw [List.getElem?_drop] at hz
                      refine ⟨_, fun j u hu => ?_, hel _ z hz⟩
                      rw [List.getElem?_take] at hu
                      split at hu
                      · rw [List.getElem?_drop] at hu
                        exact row.cells _ u hu
                      · simp at hu
                    · simp at hz)
                  exact ⟨news, h1, fun j u hu => by rw [Go.Deep.add_add]; exact h2 j u hu, h3, h4⟩
      · simp at hc
    · simp at hc
  · split at hc
    · rename_i y hy
      obtain rfl := Option.some.inj hc
      obtain ⟨a, cap, rfl, h1, h2⟩ := closeSl_elems hh hy hv
      exact ⟨a, cap, rfl, h1, h2⟩
    · simp at hc
/-- Elements of two lists, one behind the other. -/
theorem elems_append {O : Nat → Prop} {τ : Ty} {l m : List τ.den} {xs news : List Value} (hx : xs.length = l.length * τ.size) (h1 : ∀ i z, l[i]? = some z → RC O w τ z ((xs.drop (i * τ.size)).take τ.size))
    (h2 : ∀ i z, m[i]? = some z → RC O w τ z ((news.drop (i * τ.size)).take τ.size)) : ∀ i z, (l ++ m)[i]? = some z → RC O w τ z (((xs ++ news).drop (i * τ.size)).take τ.size) := by
  intro i z hz
  by_cases hi : i < l.length
  · rw [List.getElem?_append_left hi] at hz
    have hle : i * τ.size + τ.size ≤ xs.length := by
      rw [hx]
      have : (i + 1) * τ.size ≤ l.length * τ.size := Nat.mul_le_mul_right _ hi
      rwa [Nat.succ_mul] at this
    rw [List.drop_append_of_le_length (by omega), List.take_append_of_le_length (by rw [List.length_drop]; omega)]
    exact h1 i z hz
  · rw [List.getElem?_append_right (by omega)] at hz
    have : i * τ.size = xs.length + (i - l.length) * τ.size := by
      rw [hx, ← Nat.add_mul]; congr 1; omega
    rw [this, List.drop_append]
    rw [List.drop_eq_nil_of_le (by omega), List.nil_append]
    have e : xs.length + (i - l.length) * τ.size - xs.length = (i - l.length) * τ.size := by omega
    rw [e]
    exact h2 _ z hz
theorem append_ops (hT : TabOK P T) (hh : HeapR X w ρ base h) (hb : base ≤ w.heap.size) {t ty : TypeId} {nid : Nat} {s x : AV} {vs vx : Value} {K : OK R} {r : R} (hs : VR X w ρ h s vs) (hx : VR X w ρ h x vx)
    (hk : appendK T h nid t s x K = some r) : OpS X base w ρ h ((do pure (Next.value (← Builtin.append_ #[t, t] ty #[vs, vx])) : Sem Next).run P w) K r := by
  unfold appendK at hk
  split at hk
  · rename_i e j τ he
    obtain ⟨hu, hj, hτ, hsz, hby, hmk⟩ := elemInf_some hT he
    obtain ⟨ti, hti, e1, e2, e3⟩ := hT.info e j hj
    obtain ⟨hts, hz⟩ := hT.ty e j τ hj hτ
    have hzs := hT.zsize e j hj
    split at hk
    · rename_i y hy
      obtain ⟨a, cap, rfl, hnone, hsome⟩ := srcSl_elems hh hy hx
      -- the append itself, onto a row of its own
      have key0 : ∀ (v : Value) (n : Nat) (xs : List Value), w.ownsRow base e τ.size v n xs → (n + y.length) ≤ most →
          ∃ v' w' news, (Builtin.append_ #[t, t] ty #[v, .slice a y.length cap]).run P w = .ok v' w' ∧ w'.ownsRow base e τ.size v' (n + y.length) (xs ++ news) ∧ w.grownBy w' v.ownBlock ∧
            (v' = .slice none 0 0 ↔ v = .slice none 0 0 ∧ y.length = 0) ∧ (∀ i z, y[i]? = some z → RC (owned X ρ) w τ z ((news.drop (i * τ.size)).take τ.size)) ∧ (∀ k, v'.ownBlock = some k → v.ownBlock = some k ∨ w.heap.size ≤ k) ∧ (∃ a n c, v' = .slice a n c) := by
        intro v n xs how hm
        cases ha : a with
        | none =>
          obtain ⟨rfl, hy0⟩ := hnone ha
          rw [hy0]
          have hr := run_append_owned_none (P := P) w base t ty e ti τ.size hu hti v n xs how
          refine ⟨v, w, [], hr, by simpa using how, ⟨rfl, rfl, rfl, Nat.le_refl _, fun _ _ _ => rfl⟩, by simp, by simp, fun k hk => .inl hk, ?_⟩
          rcases how.2 with ⟨rfl, _⟩ | ⟨g, c, cur, rfl, _⟩ <;> exact ⟨_, _, _, rfl⟩
        | some ad =>
          obtain ⟨news, h1, h2, h3, h4⟩ := hsome ad ha
          simp only [most] at hm
          obtain ⟨v', w', hr, ho, hg, hn⟩ := run_append_own (P := P) w base t ty e ti j.zero τ.size ti.bytes hu hti e3 (by rw [e1, hsz]) rfl (by rw [hzs, hsz]) τ.size_pos v n xs how ad y.length cap news h1 h2 h3
            (by simp only [maxLen]; omega) (by
              have h5 : ti.bytes ≤ 128 := by rw [e2]; exact hby
              have : (n + y.length) * ti.bytes ≤ (n + y.length) * 128 := Nat.mul_le_mul_left _ h5
              omega) hb
          refine ⟨v', w', news, hr, ho, hg, hn, h4, fun k hk => ?_, ?_⟩
          · have hl : news.length = y.length * ti.size := by rw [h1, e1, hsz]
            have h5 : ti.bytes ≤ 128 := by rw [e2]; exact hby
            have h6 : (n + y.length) * ti.bytes ≤ (n + y.length) * 128 := Nat.mul_le_mul_left _ h5
            rcases how.2 with ⟨rfl, rfl⟩ | ⟨g, c, cur, rfl, hbg, hgg, hnc, hcm, hcs, htake⟩
            · right
              rcases Nat.eq_zero_or_pos y.length with h0 | h0
              · rw [hn.2 ⟨rfl, h0⟩] at hk; simp [Value.ownBlock] at hk
              · have h7 : y.length * ti.bytes ≤ y.length * 128 := Nat.mul_le_mul_left _ h5
                have hr' := run_append_nil (P := P) w t ty e ti j.zero hu hti e3 ad y.length cap news hl h2 h0 (by omega) (by omega)
                rw [hr'] at hr
                injection hr with hr _
                subst hr
                simp only [Value.ownBlock, Option.some.injEq] at hk
                omega
            · by_cases hroom : n + y.length ≤ c
              · left
                have hfit : n * ti.size + news.length ≤ cur.size := by rw [hl, hcs, e1, ← hsz, ← Nat.add_mul]; exact Nat.mul_le_mul_right _ hroom
                have hr' := run_append_room (P := P) w t ty e ti hu hti g n c cur hgg ad y.length cap news hl h2 h3 hroom hfit
                rw [hr'] at hr
                injection hr with hr _
                subst hr
                exact hk
              · right
                have hr' := run_append_grow (P := P) w t ty e ti j.zero hu hti e3 ⟨g, 0, none⟩ n c xs (by rw [how.1, e1, hsz]) (how.cells (g := g) rfl) ad y.length cap news hl h2 (by omega) (by omega) (growslice_fits (by omega) (by omega))
                rw [hr'] at hr
                injection hr with hr _
                subst hr
                simp only [Value.ownBlock, Option.some.injEq] at hk
                omega
          · rcases ho.2 with ⟨rfl, _⟩ | ⟨g, c, cur, rfl, _⟩ <;> exact ⟨_, _, _, rfl⟩
      have key : ∀ (v : Value) (n : Nat) (xs : List Value), rowOf w base e τ.size v n xs → (n + y.length) ≤ most →
          ∃ v' w' news, (Builtin.append_ #[t, t] ty #[v, .slice a y.length cap]).run P w = .ok v' w' ∧ rowOf w' base e τ.size v' (n + y.length) (xs ++ news) ∧ w.grownBy w' (vblock v) ∧
            (v' = .slice none 0 0 ↔ v = .slice none 0 0 ∧ y.length = 0) ∧ (∀ i z, y[i]? = some z → RC (owned X ρ) w τ z ((news.drop (i * τ.size)).take τ.size)) ∧ (∀ k, vblock v' = some k → (vblock v = some k ∨ w.heap.size ≤ k) ∧ k < w'.heap.size) ∧ (∃ a n c, v' = .slice a n c) := by
        have old : ∀ (v : Value) (n : Nat) (xs : List Value), w.ownsRow base e τ.size v n xs → vblock v = v.ownBlock → (n + y.length) ≤ most →
          ∃ v' w' news, (Builtin.append_ #[t, t] ty #[v, .slice a y.length cap]).run P w = .ok v' w' ∧ rowOf w' base e τ.size v' (n + y.length) (xs ++ news) ∧ w.grownBy w' (vblock v) ∧
            (v' = .slice none 0 0 ↔ v = .slice none 0 0 ∧ y.length = 0) ∧ (∀ i z, y[i]? = some z → RC (owned X ρ) w τ z ((news.drop (i * τ.size)).take τ.size)) ∧ (∀ k, vblock v' = some k → (vblock v = some k ∨ w.heap.size ≤ k) ∧ k < w'.heap.size) ∧ (∃ a n c, v' = .slice a n c) := by
          intro v n xs how hvb hm
          obtain ⟨v', w', news, hr, ho, hg, hn, h4, hblk, hsl⟩ := key0 v n xs how hm
          exact ⟨v', w', news, hr, .mk hmk ho, by rw [hvb]; exact hg, hn, h4, fun k hk => ⟨by rw [hvb]; exact hblk k (vblock_own hk), (ho.lt k (vblock_own hk)).2⟩, hsl⟩
        intro v n xs how hm
        rcases how with ⟨rfl, rfl, ad', rfl⟩ | ⟨g, cap', cur, tyr, fz, rfl, how⟩
        · cases ad' with
          | none => exact old _ 0 [] (World.ownsRow_nil _ _ _ _) rfl hm
          | some ad' =>
            rcases Nat.eq_zero_or_pos y.length with h0 | h0
            · refine ⟨.slice (some ad') 0 0, w, [], ?_, .inl ⟨by rw [h0], rfl, _, rfl⟩, ⟨rfl, rfl, rfl, Nat.le_refl _, fun _ _ _ => rfl⟩, by simp, fun i z hz => ?_, fun k hk => by simp [vblock] at hk, ⟨_, _, _, rfl⟩⟩
              · rw [h0]
                cases a with
                | none => simp [Builtin.append_, run_underlying hu, sizeOf, typeInfo, hti, Builtin.lenOf, Builtin.firstCells, storeCells]
                | some b =>
                  have hf := run_firstCells_some (P := P) w ti.size 0 b 0 cap [] (by simp) (by simp)
                  simp [Builtin.append_, run_underlying hu, sizeOf, typeInfo, hti, Builtin.lenOf, hf, storeCells]
              · have := (List.getElem?_eq_some_iff.1 hz).1; omega
            · cases ha : a with
              | none => have := (hnone ha).2; rw [this] at h0; simp at h0
              | some ad =>
                obtain ⟨news, h1, h2, h3, h4⟩ := hsome ad ha
                have hl : news.length = y.length * ti.size := by rw [h1, e1, hsz]
                have h5 : ti.bytes ≤ 128 := by rw [e2]; exact hby
                have h6 : y.length * ti.bytes ≤ y.length * 128 := Nat.mul_le_mul_left _ h5
                simp only [most] at hm
                have hr := run_append_grow (P := P) w t ty e ti j.zero hu hti e3 ad' 0 0 [] (by simp) (by simp) ad y.length cap news hl h2 (by omega) (by omega) (growslice_fits (by omega) (by rw [Nat.zero_add]; omega))
                have hge := grownCap_ge w (0 + y.length) 0 e
                have hle := grownCap_le_maxLen w (0 + y.length) 0 e (by simp only [maxLen]; omega)
                generalize grownCap w (0 + y.length) 0 e = gc at *
                refine ⟨_, _, news, hr, .mk hmk ⟨by simp [h1], .inr ⟨w.heap.size, gc, _, rfl, hb, heap_alloc_new w.drew _, hge, hle, ?_, ?_⟩⟩, ⟨rfl, rfl, rfl, ?_, fun q hq _ => (World.grownBy_alloc w.drew _ none).block q hq (by simp)⟩, by simp, h4, fun k hk => ?_, ⟨_, _, _, rfl⟩⟩
                · simp only [Array.size_append, List.size_toArray, List.length_nil, size_zeroCells, hzs, h1, ← hsz, Nat.zero_add]
                  rw [← Nat.add_mul]; congr 1; omega
                · rw [Nat.zero_add, ← h1]
                  simp
                · simp
                · have hk := vblock_own hk
                  simp only [Value.ownBlock, Option.some.injEq] at hk
                  subst hk
                  exact ⟨.inr (Nat.le_refl _), by simp⟩
        · exact old _ n xs (how.own hmk) rfl hm
      have hbelow : ∀ {v v1 : Value} {w' : World} {s : Sem Value}, s.run P w = .ok v1 w' → w.grownBy w' (vblock v) → (∀ k, vblock v = some k → base ≤ k) → Below base w w' := fun {v v1 w' s} hs hg hr =>
        have hB := (Go.RowKit.Below.refl base w).grown hg hb hr
        of_Below hB.os hB.tape hB.output hB.size hB.block (run_drawn s hs)
      cases s with
      | slz nl =>
        simp only at hk
        obtain ⟨hc, hk⟩ := cond_some hk
        simp only [Bool.and_eq_true, decide_eq_true_eq] at hc
        cases hs with
        | slz hz =>
          obtain ⟨az, rfl, rfl⟩ := hz
          obtain ⟨v', w', news, hr, ho, hg, hn, hel, hblk, hsl⟩ := key (.slice az 0 0) 0 [] (.inl ⟨rfl, rfl, _, rfl⟩) (by omega)
          rw [Nat.zero_add, List.nil_append] at ho
          refine OpS.of _ hr hk (new_lst (xs := news) hh hb hc.1 hg.size (fun b hb' => hg.block b hb' (by simp [vblock])) (hbelow hr hg (fun k hk => by simp [vblock] at hk))
            (fun k hk => by rcases hblk k hk with ⟨h1 | h1, h2⟩; simp [vblock] at h1; exact ⟨h1, h2⟩) hsl ho (by rw [hn]; cases az <;> simp) hel)
      | nils =>
        simp only at hk
        obtain ⟨hc, hk⟩ := cond_some hk
        simp only [Bool.and_eq_true, decide_eq_true_eq] at hc
        rw [inv_nils hs]
        obtain ⟨v', w', news, hr, ho, hg, hn, hel, hblk, hsl⟩ := key (.slice none 0 0) 0 [] (.inl ⟨rfl, rfl, _, rfl⟩) (by omega)
        rw [Nat.zero_add, List.nil_append] at ho
        refine OpS.of _ hr hk (new_lst (xs := news) hh hb hc.1 hg.size (fun b hb' => hg.block b hb' (by simp [vblock])) (hbelow hr hg (fun k hk => by simp [vblock] at hk))
          (fun k hk => by rcases hblk k hk with ⟨h1 | h1, h2⟩; simp [vblock] at h1; exact ⟨h1, h2⟩) hsl ho (by rw [hn]; simp) hel)
      | own i g =>
        simp only at hk
        split at hk
        · rename_i τ' e' nl g' l hi
          split at hk
          · rename_i l' hl
            obtain ⟨eτ, rfl⟩ := castL_some hl
            subst eτ
            have h2 := cond_some hk
            clear hk
            obtain ⟨hc, hk⟩ := h2
            rw [Bool.and_eq_true] at hc
            obtain rfl := Nat.eq_of_beq_eq_true hc.1
            obtain rfl := Nat.eq_of_beq_eq_true hc.2
            have h2 := cond_some hk
            clear hk
            obtain ⟨hm, hk⟩ := h2
            have hm : l.length + y.length ≤ most := of_decide_eq_true hm
            obtain ⟨rl, hrl, hher⟩ := hh.ent _ _ hi
            cases hs with
            | own hx1 hg1 ha _ =>
              have ha := ha _ _ _ _ hi
              obtain rfl := Option.some.inj (hrl.symm.trans ha)
              cases hher with
              | @lst _ _ _ _ _ _ xs _ how hn hel =>
                obtain ⟨v', w', news, hr, ho, hg, hn', hel', hblk, hsl⟩ := key _ l.length xs how hm
                obtain ⟨k1, f, k2, k3⟩ := set_entry hh hi ha (e := .lst τ' e nl (g + 1) (l ++ y)) (rl := .s v') (w' := w') hb hg.size (fun b hb' hne => hg.block b hb' (fun e => hne e.symm))
                  (fun n hn => hblk n hn) (by simp [HE.ver]) (fun _ _ _ _ _ he => by simp only [HE.lst.injEq] at he; obtain ⟨_, _, _, rfl, _⟩ := he; exact .inl (by simp [HE.ver])) (fun _ he => by cases he)
                  (fun f => .lst (by omega) (by rw [List.length_append]; exact ho) (by
                    rw [hn', hn]
                    simp only [Bool.and_eq_true, List.isEmpty_iff, List.append_eq_nil_iff, List.length_eq_zero_iff]
                    constructor
                    · rintro ⟨⟨h1, h2⟩, h3⟩; exact ⟨h1, h2, h3⟩
                    · rintro ⟨h1, h2, h3⟩; exact ⟨⟨h1, h2⟩, h3⟩) (fun i z hz => RC_fwd f (elems_append how.len hel hel' i z hz)))
                exact OpS.of _ hr hk ⟨_, k1, .own ⟨_, k2, Nat.le_refl _⟩ (by omega) (fun _ _ _ _ _ => k3) hsl, f, hbelow hr hg (fun k hk => (hh.lo _ _ k ha hk).1)⟩
          · simp at hk
        · simp at hk
      | _ => simp at hk
    · simp at hk
  · simp at hk
end
end Go.Proofs.YtibdnfknokkadaaDoor.Ev
