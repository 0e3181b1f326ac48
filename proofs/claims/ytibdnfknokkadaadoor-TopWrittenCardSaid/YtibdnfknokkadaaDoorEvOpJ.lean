/- Conversions, builtins, and all plain operations in one word. -/
import Derived.Test.YtibdnfknokkadaaDoorEvOpI
import Derived.Laws.BytesString
set_option linter.unusedVariables false
set_option linter.unusedSimpArgs false
namespace Go.Proofs.YtibdnfknokkadaaDoor.Ev
open Go Go.RowKit
variable {X : Nat → Prop}

section
variable {R : Type} {w : World} {ρ : Rho} {base : Nat} {h : List HE} {P : Program} {T : Tab}
theorem foldl_push (ns : List Int) (s : ByteArray) : ns.foldl (fun r n => r.push (UInt8.ofNat n.toNat)) s = ⟨s.data ++ (ns.map fun n => UInt8.ofNat n.toNat).toArray⟩ := by
  induction ns generalizing s with
  | nil => simp
  | cons n ns ih =>
    rw [List.foldl_cons, ih]
    congr 1
    apply Array.ext'
    simp [ByteArray.push]
theorem news_ints {O : Nat → Prop} {k : IntKind} : ∀ (l : List Int) (news : List Value), news.length = l.length * (Ty.int k).size → (∀ i z, l[i]? = some z → RC O w (.int k) z ((news.drop (i * (Ty.int k).size)).take (Ty.int k).size)) → news = l.map (Value.int k)
  | [], news, hl, _ => List.eq_nil_of_length_eq_zero (by simpa using hl)
  | x :: l, news, hl, h => by
    cases news with
    | nil => simp [Ty.size] at hl
    | cons v news =>
      have h0 := h 0 x rfl
      simp only [RC, Ty.size, Nat.zero_mul, List.drop_zero, List.take_succ_cons, List.take_zero, List.cons.injEq, and_true] at h0
      subst h0
      rw [List.map_cons, news_ints l news (by simpa [Ty.size] using hl) (fun i z hz => by
        have := h (i + 1) z (by simpa using hz)
        simpa [Ty.size] using this)]
theorem bytes_res (hh : HeapR X w ρ base h) {x : AV} {v : Value} {y : Bool × List (Ty.int .u8).den} (hc : closeSl (.int .u8) h x = some y) (hv : VR X w ρ h x v) : (Conv.bytesToString v).run P w = .ok (.string (bytesOf y.2)) w := by
  obtain ⟨a, cap, rfl, hn, hs⟩ := closeSl_elems hh hc hv
  cases a with
  | none => rw [(hn rfl).2]; rfl
  | some ad =>
    obtain ⟨news, h1, h2, h3, h4⟩ := hs ad rfl
    have e := news_ints (O := owned X ρ) y.2 news h1 h4
    have hl : (loadCells ad y.2.length).run P w = .ok (y.2.map (Value.int .u8)).toArray w := by
      rw [← e, ← run_loadCells_list (P := P) w ad news h2, h1]; simp [Ty.size]
    rw [run_bytesToString w ad _ cap y.2 hl, foldl_push]
    congr 2
    show (⟨#[] ++ _⟩ : ByteArray) = _
    simp [bytesOf]
theorem convert_res (hT : TabOK P T) (hh : HeapR X w ρ base h) {s d : TypeId} {x : AV} {v : Value} {K : AV → Option R} {r : R} (hv : VR X w ρ h x v)
    (hk : convertK T h s d x K = some r) : ResV X w ρ h P (convert s d v) K r := by
  unfold convertK at hk
  cases hs : T s with
  | none => rw [hs] at hk; simp at hk
  | some i =>
    cases hd : T d with
    | none => rw [hs, hd] at hk; simp at hk
    | some j =>
      rw [hs, hd] at hk
      have hus := hT.und s i hs
      have hud := hT.und d j hd
      have bytes : (match i.desc, j.desc with
        | .slice e, .string => (match T e with
          | some k => (match k.desc, closeSl (.int .u8) h x with | .int .u8, some y => K (.str (bytesOf y.2)) | _, _ => none)
          | none => none)
        | _, _ => none) = some r → ResV X w ρ h P (convert s d v) K r := fun hk => by
        split at hk
        · rename_i e hi hj
          rw [hi] at hus
          rw [hj] at hud
          split at hk
          · rename_i k he
            split at hk
            · rename_i y hkd hy
              have hue := hT.und e k he
              rw [hkd] at hue
              refine resv hk ?_ (.str _)
              have hb := bytes_res (P := P) hh hy hv
              obtain ⟨a, cap, rfl, hn, hs⟩ := closeSl_elems hh hy hv
              simp only [convert, Sem.run_bind, run_underlying hus, run_underlying hud, run_underlying hue, Result.andThen_ok]
              exact hb
            · simp at hk
          · simp at hk
        · simp at hk
      cases x with
      | int k n =>
        simp only at hk
        rw [inv_int hv]
        split at hk
        · rename_i k' hj
          rw [hj] at hud
          refine resv hk ?_ (int_of (wr_eq k' n))
          simp only [convert, Sem.run_bind, run_underlying hus, run_underlying hud, Result.andThen_ok, Conv.intToInt]
          rfl
        · simp at hk
      | str b =>
        simp only at hk
        rw [inv_str hv]
        split at hk
        · rename_i hi hj
          rw [hi] at hus
          rw [hj] at hud
          refine resv hk ?_ (.str _)
          simp only [convert, Sem.run_bind, run_underlying hus, run_underlying hud, Result.andThen_ok]
          rfl
        · simp at hk
      | _ => exact bytes hk
theorem len_res (hT : TabOK P T) (hh : HeapR X w ρ base h) {ats : Array TypeId} {ty : TypeId} {t : TypeId} {i : Inf} (ha : ats[0]? = some t) (ht : T t = some i) {x : AV} {v : Value} {K : AV → Option R} {r : R} (hv : VR X w ρ h x v)
    (hk : lenT h i.desc x K = some r) : ResV X w ρ h P (Builtin.len_ ats ty #[v]) K r := by
  unfold lenT at hk
  simp only [sizeI_eq] at hk
  have hu := hT.und t i ht
  split at hk
  · rename_i n e hd
    rw [hd] at hu
    refine resv hk ?_ (.int _ _)
    simp only [Builtin.len_, ha]
    simp only [List.getElem?_toArray, List.getElem?_cons_zero, Sem.run_bind, run_underlying hu, Result.andThen_ok]
    rfl
  · rename_i e hd
    rw [hd] at hu
    have key : ∀ a n c, v = .slice a n c → (Builtin.len_ ats ty #[v]).run P w = .ok (.int .i64 (n : Int)) w := fun a n c e => by
      subst e
      simp only [Builtin.len_, ha]
      simp only [List.getElem?_toArray, List.getElem?_cons_zero, Sem.run_bind, run_underlying hu, Result.andThen_ok]
      rfl
    unfold lenSl at hk
    simp only [lenI_eq] at hk
    split at hk
    · exact resv hk (key none 0 0 (inv_nils hv)) (.int _ _)
    · obtain ⟨a, cap, e, _⟩ := sl_form (inv_sl hv)
      exact resv hk (key _ _ _ e) (.int _ _)
    · cases hv with
      | slz hz => obtain ⟨a, rfl, _⟩ := hz; exact resv hk (key _ 0 _ rfl) (.int _ _)
    · cases hv with
      | bs hr => exact resv hk (key _ _ _ rfl) (.int _ _)
    · rename_i id g
      split at hk
      · rename_i t' ty' nl g' l hi
        have h2 := cond_some hk
        clear hk
        obtain ⟨hc, hk⟩ := h2
        obtain rfl := Nat.eq_of_beq_eq_true hc
        obtain ⟨rl, hrl, hher⟩ := hh.ent _ _ hi
        cases hv with
        | own hx1 hg1 hown hs =>
          have hown := hown _ _ _ _ hi
          obtain rfl := Option.some.inj (hrl.symm.trans hown)
          cases hher with
          | lst _ how _ _ =>
            obtain ⟨a, c, rfl, _⟩ := how.sl
            exact resv hk (key _ _ _ rfl) (.int _ _)
      · simp at hk
    · simp at hk
  · rename_i hd
    rw [hd] at hu
    cases x with
    | str s =>
      rw [inv_str hv]
      refine resv hk ?_ (.int _ _)
      simp only [Builtin.len_, ha]
      simp only [List.getElem?_toArray, List.getElem?_cons_zero, Sem.run_bind, run_underlying hu, Result.andThen_ok]
      rfl
    | _ => simp at hk
  · simp at hk

theorem minmax_sound (f : Value → Value → Sem Value) (lt : Int → Int → Bool) (hf : ∀ k a b (w : World), (f (.int k a) (.int k b)).run P w = .ok (.int k (bif lt b a then b else a)) w) :
    ∀ (r : List AV) (rv : List Value) (x av : AV) (v : Value), minmax lt x r = some av → VR X w ρ h x v → VRs X w ρ h r rv → ∃ u, (rv.foldlM f v).run P w = .ok u w ∧ VR X w ρ h av u
  | [], rv, x, av, v, hm, hx, hr => by
    have : rv = [] := List.eq_nil_of_length_eq_zero (by simpa using hr.1.symm)
    subst this
    cases x <;> simp only [minmax, Option.some.injEq] at hm <;> subst hm <;> exact ⟨v, rfl, hx⟩
  | y :: r, rv, x, av, v, hm, hx, hr => by
    obtain ⟨vy, rv', rfl, hy, hr'⟩ := hr.uncons
    cases x <;> try (simp [minmax] at hm; done)
    rename_i k a
    cases y <;> try (simp [minmax] at hm; done)
    rename_i k' b
    simp only [minmax] at hm
    split at hm
    · rename_i e
      subst e
      rw [inv_int hx, inv_int hy]
      obtain ⟨u, h1, h2⟩ := minmax_sound f lt hf r rv' _ av _ hm (.int k _) hr'
      exact ⟨u, by rw [List.foldlM_cons, Sem.run_bind, hf]; exact h1, h2⟩
    · simp at hm
theorem VRs_map {A : Operand → AV} {B : Operand → Value} (hAB : ∀ x, VR X w ρ h (A x) (B x)) (xs : List Operand) : VRs X w ρ h (xs.map A) (xs.map B) :=
  ⟨by simp, fun i c v hc hv => by
    obtain ⟨x, hx, rfl⟩ := map_at hc
    obtain ⟨y, hy, rfl⟩ := map_at hv
    obtain rfl := Option.some.inj (hx.symm.trans hy)
    exact hAB x⟩
theorem builtin_ops (hT : TabOK P T) (hh : HeapR X w ρ base h) (hb : base ≤ w.heap.size) {b : Builtin} {ats : Array TypeId} {ty : TypeId} {consts : Array Bool} {nid : Nat} {args : List AV} {vs : Array Value} {K : OK R} {r : R} (hv : VRs X w ρ h args vs.toList)
    (hk : builtinK T h nid b ats args K = some r) : OpS X base w ρ h ((builtin b ats ty consts vs).run P w) K r := by
  unfold builtinK at hk
  split at hk
  · -- len
    rename_i x
    obtain ⟨v, rest, e1, hx, hrest⟩ := hv.uncons
    have : rest = [] := List.eq_nil_of_length_eq_zero (by simpa using hrest.1.symm)
    subst this
    obtain rfl : vs = #[v] := by apply Array.ext'; simpa using e1
    split at hk
    · rename_i i hi
      split at hi
      · rename_i t ht
        exact ResV.ops hh (len_res hT hh ht hi hx hk)
      · simp at hi
    · simp at hk
  · -- append
    rename_i s x
    obtain ⟨v, rest, e1, hs, hrest⟩ := hv.uncons
    obtain ⟨u, rest', rfl, hx, hrest'⟩ := hrest.uncons
    have : rest' = [] := List.eq_nil_of_length_eq_zero (by simpa using hrest'.1.symm)
    subst this
    obtain rfl : vs = #[v, u] := by apply Array.ext'; simpa using e1
    split at hk
    · rename_i t t' h0 h1
      have h2 := cond_some hk
      clear hk
      obtain ⟨hc, hk⟩ := h2
      rw [Bool.and_eq_true] at hc
      obtain rfl := Nat.eq_of_beq_eq_true hc.1
      have hsz := Nat.eq_of_beq_eq_true hc.2
      obtain rfl : ats = #[t, t] := by
        apply Array.ext (by simpa using hsz)
        intro i hi hi'
        have : i = 0 ∨ i = 1 := by rw [hsz] at hi; omega
        rcases this with rfl | rfl
        · have := Array.getElem?_eq_getElem hi; rw [h0] at this; simpa using (Option.some.inj this).symm
        · have := Array.getElem?_eq_getElem hi; rw [h1] at this; simpa using (Option.some.inj this).symm
      exact append_ops hT hh hb hs hx hk
    · simp at hk
  · -- min
    rename_i x r'
    obtain ⟨v, rest, e1, hx, hrest⟩ := hv.uncons
    split at hk
    · rename_i av hm
      obtain ⟨u, h1, h2⟩ := minmax_sound (P := P) Builtin.min2 _ (fun k a b w => by show Result.ok (Value.int k (if b < a then b else a)) w = _; congr 2; by_cases hba : b < a <;> simp [hba]) r' rest x av v hm hx hrest
      refine ResV.ops hh ⟨av, u, hk, ?_, h2⟩
      simp only [Builtin.min_, e1]
      exact h1
    · simp at hk
  · -- max
    rename_i x r'
    obtain ⟨v, rest, e1, hx, hrest⟩ := hv.uncons
    split at hk
    · rename_i av hm
      obtain ⟨u, h1, h2⟩ := minmax_sound (P := P) Builtin.max2 _ (fun k a b w => by show Result.ok (Value.int k (if b > a then b else a)) w = _; congr 2; by_cases hba : b > a <;> simp [hba]) r' rest x av v hm hx hrest
      refine ResV.ops hh ⟨av, u, hk, ?_, h2⟩
      simp only [Builtin.max_, e1]
      exact h1
    · simp at hk
  · simp at hk
end
end Go.Proofs.YtibdnfknokkadaaDoor.Ev
