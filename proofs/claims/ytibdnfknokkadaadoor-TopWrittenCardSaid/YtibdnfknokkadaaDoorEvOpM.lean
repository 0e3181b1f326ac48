/- Maps: made, looked up, written, ranged over. -/
import Derived.Test.YtibdnfknokkadaaDoorEvOpL
import Derived.Test.YtibdnfknokkadaaDoorEvCode
import Derived.Maps.RangeRun
set_option linter.unusedVariables false
set_option linter.unusedSimpArgs false
namespace Go.Proofs.YtibdnfknokkadaaDoor.Ev
open Go Go.RowKit
open Go.ChangeMaps (setBlock)
variable {X : Nat → Prop}

section
variable {R : Type} {w : World} {ρ : Rho} {base : Nat} {h : List HE} {P : Program} {T : Tab}
theorem demon_all {α : Type} {l : List α} {K : α → Option R} {r : R} (hd : demon l K = some r) : ∀ a ∈ l, K a = some r := by
  unfold demon at hd
  split at hd
  · rename_i hx
    obtain rfl := Option.some.inj hd
    exact hx.choose_spec
  · cases hd
theorem demon_intro {α : Type} {l : List α} {K : α → Option R} {r : R} (hne : l ≠ []) (ha : ∀ a ∈ l, K a = some r) : demon l K = some r := by
  have hx : ∃ r, ∀ a ∈ l, K a = some r := ⟨r, ha⟩
  unfold demon
  rw [dif_pos hx]
  cases l with
  | nil => exact absurd rfl hne
  | cons a l =>
    have h1 := hx.choose_spec a (by simp)
    rw [ha a (by simp)] at h1
    exact h1.symm

/-! Data of keys. -/
theorem ba_beq (a b : ByteArray) : (a == b) = decide (a = b) := by
  obtain ⟨⟨x⟩⟩ := a
  obtain ⟨⟨y⟩⟩ := b
  show ((⟨x⟩ : Array UInt8) == ⟨y⟩) = _
  rw [beqd]
  congr 1
  simp
theorem RC_det {O O' : Nat → Prop} {w w' : World} : ∀ (t : Ty) (x : t.den) (c c' : List Value), t.noSl = true → RC O w t x c → RC O' w' t x c' → c = c'
  | .int _, _, _, _, _, h, h' => by simp only [RC] at h h'; rw [h, h']
  | .bool, _, _, _, _, h, h' => by simp only [RC] at h h'; rw [h, h']
  | .str, _, _, _, _, h, h' => by simp only [RC] at h h'; rw [h, h']
  | .sl _, _, _, _, h, _, _ => by simp [Ty.noSl] at h
  | .pair a b, x, _, _, hn, h, h' => by
    simp only [Ty.noSl, Bool.and_eq_true] at hn
    simp only [RC] at h h'
    obtain ⟨c1, c2, rfl, h1, h2⟩ := h
    obtain ⟨d1, d2, rfl, h3, h4⟩ := h'
    rw [RC_det a _ _ _ hn.1 h1 h3, RC_det b _ _ _ hn.2 h2 h4]
theorem eqb_eq : ∀ (t : Ty) (x y : t.den), t.noSl = true → (t.eqb x y = true ↔ x = y)
  | .int _, x, y, _ => by simp [Ty.eqb]
  | .bool, x, y, _ => by simp [Ty.eqb]
  | .str, x, y, _ => by simp [Ty.eqb]
  | .sl _, _, _, h => by simp [Ty.noSl] at h
  | .pair a b, x, y, hn => by
    simp only [Ty.noSl, Bool.and_eq_true] at hn
    simp only [Ty.eqb, Bool.and_eq_true, eqb_eq a _ _ hn.1, eqb_eq b _ _ hn.2]
    exact ⟨fun ⟨h1, h2⟩ => Prod.ext h1 h2, fun h => by rw [h]; exact ⟨rfl, rfl⟩⟩
theorem VF_eq {a : Bool} {v v' : Value} (h : VF a v) (h' : VF a v') (hc : v.cells.toList = v'.cells.toList) : v = v' := by
  cases a with
  | true =>
    obtain ⟨vs, rfl⟩ := h
    obtain ⟨vs', rfl⟩ := h'
    simp only [Value.cells] at hc
    rw [Array.ext' hc]
  | false =>
    have h : v.cells = #[v] := h
    have h' : v'.cells = #[v'] := h'
    rw [h, h'] at hc
    simpa using hc
theorem bits_cells {O : Nat → Prop} {w : World} : ∀ (t : Ty) (x : t.den) (c : List Value), t.noSl = true → RC O w t x c → ∀ v ∈ c, ∀ n, Instr.sameBits n v v = true
  | .int _, _, _, _, h, v, hv, n => by simp only [RC] at h; subst h; simp only [List.mem_singleton] at hv; subst hv; cases n <;> simp [Instr.sameBits]
  | .bool, _, _, _, h, v, hv, n => by simp only [RC] at h; subst h; simp only [List.mem_singleton] at hv; subst hv; cases n <;> simp [Instr.sameBits]
  | .str, _, _, _, h, v, hv, n => by simp only [RC] at h; subst h; simp only [List.mem_singleton] at hv; subst hv; cases n <;> simp [Instr.sameBits, ba_beq]
  | .sl _, _, _, hn, _, _, _, _ => by simp [Ty.noSl] at hn
  | .pair a b, x, _, hn, h, v, hv, n => by
    simp only [Ty.noSl, Bool.and_eq_true] at hn
    simp only [RC] at h
    obtain ⟨c1, c2, rfl, h1, h2⟩ := h
    rcases List.mem_append.1 hv with hv | hv
    · exact bits_cells a _ _ hn.1 h1 v hv n
    · exact bits_cells b _ _ hn.2 h2 v hv n
theorem bits_val {O : Nat → Prop} {w : World} {t : Ty} {x : t.den} {a : Bool} {v : Value} (hn : t.noSl = true) (h : FV O w a t x v) (n : Nat) : Instr.sameBits (n + 1) v v = true := by
  obtain ⟨h1, h2⟩ := h
  cases a with
  | true =>
    obtain ⟨vs, rfl⟩ := h2
    simp only [Value.cells] at h1
    simp only [Instr.sameBits, beq_self_eq_true, Bool.true_and, List.all_eq_true]
    intro p hp
    obtain ⟨i, hi⟩ := List.mem_iff_getElem?.1 hp
    rw [List.getElem?_zip_eq_some] at hi
    obtain ⟨e1, e2⟩ := hi
    have : p.1 = p.2 := Option.some.inj (e1.symm.trans e2)
    rw [this]
    exact bits_cells t x _ hn h1 _ (List.mem_of_getElem? e2) n
  | false =>
    have h2 : v.cells = #[v] := h2
    rw [h2] at h1
    exact bits_cells t x _ hn h1 v (by simp) _
/-- What is held of a key, an element, as a value. -/
theorem FV_VR {hh : List HE} {t : Ty} {x : t.den} {a : Bool} {v : Value} (hv : FV (owned X ρ) w a t x v) : VR X w ρ hh (avOf a (t.cells x)) v := by
  obtain ⟨h1, h2⟩ := hv
  have hc := RC_cells (hh := hh) t x _ h1
  cases a with
  | true =>
    obtain ⟨vs, rfl⟩ := h2
    exact .agg (by simpa [Value.cells] using hc.1) (fun i c v hi hv => hc.2 i c v hi (by simpa [Value.cells] using hv))
  | false =>
    have h2 : v.cells = #[v] := h2
    rw [h2] at hc
    obtain ⟨c, hl⟩ : ∃ c, t.cells x = [c] := by
      have := hc.1
      match t.cells x, this with
      | [c], _ => exact ⟨c, rfl⟩
    rw [hl] at hc
    simp only [avOf, cond_false, hl]
    exact hc.2 0 c v rfl rfl
theorem asD_sound (hh : HeapR X w ρ base h) {O' : Nat → Prop} (ho : ∀ b, O' b → owned X ρ b) {j : Inf} {t : Ty} {x : AV} {v : Value} {k : t.den} (hx : VR X w ρ h x v) (hk : asD h j t x = some k)
    (hno : ∀ i g, AV.own i g ∈ x.flat → ∀ r n, ρ[i]? = some r → r.block = some n → ¬ O' n) : FV O' w (isAggD j.desc) t k v ∧ t.closeAll h x.flat = some k := by
  unfold asD at hk
  split at hk
  · rename_i cs ha
    obtain ⟨hc, hk⟩ := cond_some hk
    obtain ⟨vs, rfl, hl, hcs⟩ := inv_agg hx
    rw [ha]
    exact ⟨⟨(closeAll_sound hh ho hk hno (vs := vs.toList) ⟨by simpa using hl, fun i c v hi hv => hcs i c v hi (by simpa using hv)⟩).1, vs, rfl⟩, hk⟩
  · cases hk
  · cases hk
  · rename_i x _ _ ha hna
    obtain ⟨hc, hk⟩ := cond_some hk
    have hf : x.flat = [x] := by cases x <;> first | rfl | exact absurd rfl (hna _)
    obtain ⟨_, hcell⟩ := cell_one hc hx
    rw [ha, hf]
    rw [hf] at hno
    refine ⟨⟨?_, hcell⟩, hk⟩
    rw [hcell]
    exact (closeAll_sound hh ho hk hno (vs := [v]) (.cons hx (.nil _ _ _))).1
/-- What of a key's value is known without what is held. -/
theorem key_sound (hh : HeapR X w ρ base h) {j : Inf} {t : Ty} {x : AV} {v : Value} {k : t.den} (hn : t.noSl = true) (hx : VR X w ρ h x v) (hk : asD h j t x = some k) : FV (owned X ρ) w (isAggD j.desc) t k v := by
  have h1 := (asD_sound hh (O' := fun _ => False) (fun _ h => h.elim) hx hk (fun _ _ _ _ _ _ _ h => h)).1
  exact ⟨RC_noSl t k _ hn h1.1, h1.2⟩

/-! '==' of keys, and what the model asks of them. -/
theorem part_cells {j : Inf} {A : Ty} (hs : A.size = j.size) (a : A.den) (rest : List AV) : partK j (A.cells a ++ rest) some = some (avOf (isAggD j.desc) (A.cells a)) := by
  have hl := cells_length A a
  unfold partK avOf
  cases isAggD j.desc with
  | true =>
    have hb : Nat.ble j.size (A.cells a ++ rest).length = true := Nat.ble_eq_true_of_le (by simp; omega)
    rw [cond_true, hb, cond_true, cond_true, ← hs, List.take_append_of_le_length (by omega), List.take_of_length_le (by omega)]
  | false =>
    have hp := A.size_pos
    cases hc : A.cells a with
    | nil => rw [hc] at hl; simp at hl; omega
    | cons c r => rfl
theorem keyTyF_all {f : TypeId → Option Ty} {Q : Ty → Prop} (hp : ∀ a b, Q a → Q b → Q (.pair a b)) (hf : ∀ t A, f t = some A → Q A) : ∀ (l : List Field) (o : Nat) (K : Ty), keyTyF T f l o = some K → Q K
  | [], _, _, h => by simp [keyTyF] at h
  | [fd], o, K, h => by
    unfold keyTyF at h
    split at h
    · obtain ⟨_, h⟩ := cond_some h
      split at h
      · rename_i a ha
        obtain ⟨_, h⟩ := cond_some h
        cases h
        exact hf _ _ ha
      · cases h
    · cases h
  | fd :: fd' :: r, o, K, h => by
    unfold keyTyF at h
    split at h
    · obtain ⟨_, h⟩ := cond_some h
      split at h
      · rename_i a b ha hb
        obtain ⟨_, h⟩ := cond_some h
        cases h
        exact hp _ _ (hf _ _ ha) (keyTyF_all hp hf _ _ _ hb)
      · cases h
    · cases h
theorem keyTy_noSl : ∀ (d : Nat) (t : TypeId) (K : Ty), keyTy T d t = some K → K.noSl = true
  | 0, _, _, h => by simp [keyTy] at h
  | d + 1, t, K, h => by
    unfold keyTy at h
    split at h
    · split at h
      · cases h; rfl
      · cases h; rfl
      · cases h; rfl
      · obtain ⟨_, h⟩ := cond_some h
        exact keyTyF_all (Q := fun K => K.noSl = true) (fun a b h1 h2 => by simp [Ty.noSl, h1, h2]) (fun t A hA => keyTy_noSl d t A hA) _ _ _ h
      · cases h
    · cases h
theorem keyTyF_eq {f : TypeId → Option Ty} {g : TypeId → AV → AV → Option Bool} (hfg : ∀ (t : TypeId) (j : Inf) (A : Ty), T t = some j → f t = some A → ∀ (k k' : A.den), g t (avOf (isAggD j.desc) (A.cells k)) (avOf (isAggD j.desc) (A.cells k')) = some (A.eqb k k')) :
    ∀ (l : List Field) (o : Nat) (K : Ty), keyTyF T f l o = some K → ∀ (k k' : K.den) (pre pre' : List AV), pre.length = o → pre'.length = o → eqFs T g (pre ++ K.cells k) (pre' ++ K.cells k') l = some (K.eqb k k')
  | [], _, _, h => by simp [keyTyF] at h
  | [fd], o, K, h => by
    intro k k' pre pre' hp hp'
    unfold keyTyF at h
    split at h
    · rename_i j hj
      obtain ⟨ho, h⟩ := cond_some h
      have ho := Nat.eq_of_beq_eq_true ho
      split at h
      · rename_i a ha
        obtain ⟨hs, h⟩ := cond_some h
        have hs := Nat.eq_of_beq_eq_true hs
        cases h
        simp only [eqFs, hj, ho]
        rw [List.drop_append_of_le_length (by omega), List.drop_eq_nil_of_le (by omega), List.nil_append, List.drop_append_of_le_length (by omega), List.drop_eq_nil_of_le (by omega), List.nil_append]
        have e1 := part_cells hs k []
        have e2 := part_cells hs k' []
        rw [List.append_nil] at e1 e2
        rw [e1, e2]
        simp only [hfg _ _ _ hj ha]
        simp
      · cases h
    · cases h
  | fd :: fd' :: r, o, K, h => by
    intro k k' pre pre' hp hp'
    unfold keyTyF at h
    split at h
    · rename_i j hj
      obtain ⟨ho, h⟩ := cond_some h
      have ho := Nat.eq_of_beq_eq_true ho
      split at h
      · rename_i a b ha hb
        obtain ⟨hs, h⟩ := cond_some h
        have hs := Nat.eq_of_beq_eq_true hs
        cases h
        rw [eqFs]
        simp only [hj, ho]
        rw [List.drop_append_of_le_length (by omega), List.drop_eq_nil_of_le (by omega), List.nil_append, List.drop_append_of_le_length (by omega), List.drop_eq_nil_of_le (by omega), List.nil_append]
        have e1 : partK j ((Ty.pair a b).cells k) some = _ := part_cells hs k.1 (b.cells k.2)
        have e2 : partK j ((Ty.pair a b).cells k') some = _ := part_cells hs k'.1 (b.cells k'.2)
        rw [e1, e2]
        have e3 := keyTyF_eq hfg _ _ _ hb k.2 k'.2 (pre ++ a.cells k.1) (pre' ++ a.cells k'.1) (by rw [List.length_append, cells_length, hp, hs]) (by rw [List.length_append, cells_length, hp', hs])
        simp only [hfg _ _ _ hj ha]
        rw [List.append_assoc, List.append_assoc] at e3
        have e4 : eqFs T g (pre ++ (Ty.pair a b).cells k) (pre' ++ (Ty.pair a b).cells k') (fd' :: r) = some (b.eqb k.2 k'.2) := e3
        rw [e4]
        rfl
      · cases h
    · cases h
theorem keyTy_eq : ∀ (d : Nat) (t : TypeId) (K : Ty) (i : Inf), keyTy T d t = some K → T t = some i → ∀ k k', eqV T d t (avOf (isAggD i.desc) (K.cells k)) (avOf (isAggD i.desc) (K.cells k')) = some (K.eqb k k')
  | 0, _, _, _, h, _ => by simp [keyTy] at h
  | d + 1, t, K, i, h, hi => by
    intro k k'
    unfold keyTy at h
    rw [hi] at h
    simp only at h
    split at h
    · rename_i q hd; cases h; simp [eqV, hi, hd, isAggD, avOf, Ty.cells, Ty.eqb]
    · rename_i hd; cases h; simp [eqV, hi, hd, isAggD, avOf, Ty.cells, Ty.eqb]
    · rename_i hd; cases h; simp [eqV, hi, hd, isAggD, avOf, Ty.cells, Ty.eqb]
    · rename_i fs hd
      obtain ⟨he, h⟩ := cond_some h
      have := keyTyF_eq (T := T) (g := eqV T d) (fun t j A hj hA => keyTy_eq d t A j hA hj) fs.toList 0 K h k k' [] [] rfl rfl
      simp only [List.nil_append] at this
      simp only [eqV, hi, hd, isAggD, avOf, cond_true, he]
      exact this
    · cases h
theorem checkF (hT : TabOK P T) {em : Bool} {m : Nat} {f : TypeId → Option Ty} (hf : ∀ (t : TypeId) (j : Inf) (A : Ty), T t = some j → f t = some A → ∀ (k : A.den) (v : Value), VR X w ρ h (avOf (isAggD j.desc) (A.cells k)) v → (Instr.checkKey em m t v).run P w = .ok () w) {cs : List AV} {vs : Array Value} (hl : cs.length = vs.size)
    (hc : ∀ (i : Nat) (c : AV) (v : Value), cs[i]? = some c → vs[i]? = some v → VR X w ρ h c v) : ∀ (l : List Field) (o : Nat) (K : Ty), keyTyF T f l o = some K → ∀ (k : K.den) (pre : List AV), pre.length = o → cs = pre ++ K.cells k → ∀ fd ∈ l, ∃ v, (part fd.type vs fd.offset).run P w = .ok v w ∧ (Instr.checkKey em m fd.type v).run P w = .ok () w
  | [], _, _, h => by simp [keyTyF] at h
  | [fd], o, K, h => by
    intro k pre hp hcs x hx
    simp only [List.mem_singleton] at hx
    subst hx
    unfold keyTyF at h
    split at h
    · rename_i j hj
      obtain ⟨ho, h⟩ := cond_some h
      have ho := Nat.eq_of_beq_eq_true ho
      split at h
      · rename_i a ha
        obtain ⟨hs, h⟩ := cond_some h
        have hs := Nat.eq_of_beq_eq_true hs
        cases h
        have e1 := part_cells hs k []
        rw [List.append_nil] at e1
        obtain ⟨v, h1, h2⟩ := part_pair hT hj hl hc (off := x.offset) (a := avOf (isAggD j.desc) (Ty.cells _ k)) (by rw [hcs, ho, List.drop_append_of_le_length (by omega), List.drop_eq_nil_of_le (by omega), List.nil_append]; exact e1)
        exact ⟨v, h1, hf _ _ _ hj ha k v h2⟩
      · cases h
    · cases h
  | fd :: fd' :: r, o, K, h => by
    intro k pre hp hcs x hx
    unfold keyTyF at h
    split at h
    · rename_i j hj
      obtain ⟨ho, h⟩ := cond_some h
      have ho := Nat.eq_of_beq_eq_true ho
      split at h
      · rename_i a b ha hb
        obtain ⟨hs, h⟩ := cond_some h
        have hs := Nat.eq_of_beq_eq_true hs
        cases h
        rcases List.mem_cons.1 hx with rfl | hx
        · have e1 := part_cells hs k.1 (b.cells k.2)
          obtain ⟨v, h1, h2⟩ := part_pair hT hj hl hc (off := x.offset) (a := avOf (isAggD j.desc) (a.cells k.1)) (by rw [hcs, ho, List.drop_append_of_le_length (by omega), List.drop_eq_nil_of_le (by omega), List.nil_append]; exact e1)
          exact ⟨v, h1, hf _ _ _ hj ha k.1 v h2⟩
        · exact checkF hT hf hl hc _ _ _ hb k.2 (pre ++ a.cells k.1) (by rw [List.length_append, cells_length, hp, hs]) (by rw [hcs, List.append_assoc]; rfl) x hx
      · cases h
    · cases h
theorem check_sound (hT : TabOK P T) (em : Bool) : ∀ (d : Nat) (t : TypeId) (K : Ty) (i : Inf), keyTy T d t = some K → T t = some i → ∀ (m : Nat), d ≤ m → ∀ k v, VR X w ρ h (avOf (isAggD i.desc) (K.cells k)) v → (Instr.checkKey em m t v).run P w = .ok () w
  | 0, _, _, _, h, _ => by simp [keyTy] at h
  | d + 1, t, K, i, h, hi => by
    intro m hm k v hv
    obtain ⟨m, rfl⟩ : ∃ m', m = m' + 1 := ⟨m - 1, by omega⟩
    have hu := hT.und t i hi
    unfold keyTy at h
    rw [hi] at h
    simp only at h
    split at h
    · rename_i q hd; cases h; rw [hd] at hu hv; simp only [isAggD, avOf, cond_false, Ty.cells] at hv; rw [inv_int hv]; simp [Instr.checkKey, run_underlying hu]
    · rename_i hd; cases h; rw [hd] at hu hv; simp only [isAggD, avOf, cond_false, Ty.cells] at hv; rw [inv_bool hv]; simp [Instr.checkKey, run_underlying hu]
    · rename_i hd; cases h; rw [hd] at hu hv; simp only [isAggD, avOf, cond_false, Ty.cells] at hv; rw [inv_str hv]; simp [Instr.checkKey, run_underlying hu]
    · rename_i fs hd
      obtain ⟨he, h⟩ := cond_some h
      rw [hd] at hu hv
      simp only [isAggD, avOf, cond_true] at hv
      obtain ⟨vs, rfl, hl, hc⟩ := inv_agg hv
      have e3 := (hT.eqs t i hi he).2.2 fs hd
      have hall := checkF hT (em := em) (m := m) (fun t j A hj hA k v hv => check_sound hT em d t A j hA hj m (by omega) k v hv) hl hc fs.toList 0 K h k [] rfl rfl
      rw [Instr.checkKey]
      simp only [Sem.run_bind, run_underlying hu, Result.andThen_ok]
      rw [← Array.forIn_toList]
      generalize fs.toList = L at hall e3
      clear h hu hd
      induction L with
      | nil => simp
      | cons f L ih =>
        obtain ⟨v, h1, h2⟩ := hall f (by simp)
        have hn := e3 f (by simp)
        simp only [List.forIn_cons, Sem.run_bind, hn, ne_eq, not_false_eq_true, if_true, Result.andThen_ok, h1, h2, Sem.run_pure]
        exact ih (fun x hx => hall x (by simp [hx])) (fun x hx => e3 x (by simp [hx]))
    · cases h
theorem equal_sound (hT : TabOK P T) {t : TypeId} {K : Ty} {i : Inf} (hK : keyTy T 8 t = some K) (hi : T t = some i) {k k' : K.den} {v v' : Value} (hv : VR X w ρ h (avOf (isAggD i.desc) (K.cells k)) v) (hv' : VR X w ρ h (avOf (isAggD i.desc) (K.cells k')) v') :
    (Op.equal t v v').run P w = .ok (K.eqb k k') w := eqV_sound hT 8 t _ _ _ _ _ hv hv' (keyTy_eq 8 t K i hK hi k k') 10000 (by omega)

/-! Where a key's entry lies. -/
def midx {α : Type} (K : Ty) : List (Nat × K.den × α) → K.den → Option Nat
  | [], _ => none
  | d :: r, k => bif K.eqb k d.2.1 then some 0 else (midx K r k).map (· + 1)
theorem midx_none {α : Type} {K : Ty} {k : K.den} : ∀ {D : List (Nat × K.den × α)}, midx K D k = none → mget K D k = none ∧ ∀ v clk, mput K k v clk D = D ++ [(clk, k, v)]
  | [], _ => ⟨rfl, fun _ _ => rfl⟩
  | d :: r, h => by
    simp only [midx] at h
    cases hb : K.eqb k d.2.1 with
    | true => rw [hb] at h; simp at h
    | false =>
      rw [hb] at h
      simp only [cond_false, Option.map_eq_none_iff] at h
      obtain ⟨h1, h2⟩ := midx_none h
      refine ⟨by simp only [mget, hb, cond_false, h1], fun v clk => by simp only [mput, hb, cond_false, h2, List.cons_append]⟩
theorem midx_some {α : Type} {K : Ty} {k : K.den} : ∀ {D : List (Nat × K.den × α)} {j : Nat}, midx K D k = some j → ∃ d, D[j]? = some d ∧ mget K D k = some d.2.2 ∧ K.eqb k d.2.1 = true ∧ ∀ v clk, mput K k v clk D = D.set j (d.1, k, v)
  | [], _, h => by simp [midx] at h
  | d :: r, j, h => by
    simp only [midx] at h
    cases hb : K.eqb k d.2.1 with
    | true =>
      rw [hb] at h
      simp only [cond_true, Option.some.injEq] at h
      subst h
      exact ⟨d, rfl, by simp only [mget, hb, cond_true], hb, fun v clk => by simp only [mput, hb, cond_true, List.set_cons_zero]⟩
    | false =>
      rw [hb] at h
      simp only [cond_false, Option.map_eq_some_iff] at h
      obtain ⟨j', hj, rfl⟩ := h
      obtain ⟨d', h1, h2, h3, h4⟩ := midx_some hj
      exact ⟨d', by simpa using h1, by simp only [mget, hb, cond_false, h2], h3, fun v clk => by simp only [mput, hb, cond_false, h4, List.set_cons_succ]⟩
theorem asking_sound (hT : TabOK P T) {α : Type} {t : TypeId} {K : Ty} {i : Inf} (hK : keyTy T 8 t = some K) (hi : T t = some i) {k : K.den} {v : Value} (hv : VR X w ρ h (avOf (isAggD i.desc) (K.cells k)) v) :
    ∀ (D : List (Nat × K.den × α)) (es : List MapEntry) (q : Nat), es.length = D.length → (∀ (j : Nat) (d : Nat × K.den × α) (e : MapEntry), D[j]? = some d → es[j]? = some e → VR X w ρ h (avOf (isAggD i.desc) (K.cells d.2.1)) e.key) →
      (midx K D k = none ∧ (Instr.findAsking t v es q).run P w = .ok none w) ∨ ∃ j e, midx K D k = some j ∧ es[j]? = some e ∧ (Instr.findAsking t v es q).run P w = .ok (some (q + j, e.val)) w
  | [], [], q, _, _ => .inl ⟨rfl, by simp [Instr.findAsking]⟩
  | [], _ :: _, _, hl, _ => by simp at hl
  | _ :: _, [], _, hl, _ => by simp at hl
  | d :: D, e :: es, q, hl, hall => by
    have he := equal_sound hT hK hi hv (hall 0 d e rfl rfl)
    cases hb : K.eqb k d.2.1 with
    | true =>
      rw [hb] at he
      exact .inr ⟨0, e, by simp only [midx, hb, cond_true], rfl, by simp [Instr.findAsking, he]⟩
    | false =>
      rw [hb] at he
      rcases asking_sound hT hK hi hv D es (q + 1) (by simpa using hl) (fun j d' e' h1 h2 => hall (j + 1) d' e' (by simpa using h1) (by simpa using h2)) with ⟨h1, h2⟩ | ⟨j, e', h1, h2, h3⟩
      · exact .inl ⟨by simp only [midx, hb, cond_false, h1, Option.map_none], by simp [Instr.findAsking, he, h2]⟩
      · exact .inr ⟨j + 1, e', by simp only [midx, hb, cond_false, h1, Option.map_some], by simpa using h2, by simp [Instr.findAsking, he, h3, Nat.add_assoc, Nat.add_comm 1 j]⟩
theorem now_one {t : TypeId} {K : Ty} {i : Inf} (hK : keyTy T 8 t = some K) (hi : T t = some i) {k k' : K.den} {v v' : Value} (hv : VR X w ρ h (avOf (isAggD i.desc) (K.cells k)) v) (hv' : VR X w ρ h (avOf (isAggD i.desc) (K.cells k')) v') :
    Instr.sameNow i.desc v v' = none ∨ Instr.sameNow i.desc v v' = some (K.eqb k k') := by
  unfold keyTy at hK
  rw [hi] at hK
  simp only at hK
  split at hK
  · rename_i q hd; cases hK; rw [hd] at hv hv'; simp only [isAggD, avOf, cond_false, Ty.cells] at hv hv'; rw [inv_int hv, inv_int hv', hd]; right; simp [Instr.sameNow, Ty.eqb, beqd]
  · rename_i hd; cases hK; rw [hd] at hv hv'; simp only [isAggD, avOf, cond_false, Ty.cells] at hv hv'; rw [inv_bool hv, inv_bool hv', hd]; right; simp [Instr.sameNow, Ty.eqb]
  · rename_i hd; cases hK; rw [hd] at hv hv'; simp only [isAggD, avOf, cond_false, Ty.cells] at hv hv'; rw [inv_str hv, inv_str hv', hd]; right
    simp only [Instr.sameNow, Ty.eqb, Option.some.injEq]
    exact ba_beq _ _
  · rename_i fs hd; left; rw [hd]; simp [Instr.sameNow]
  · cases hK
theorem findNow_sound {α : Type} {t : TypeId} {K : Ty} {i : Inf} (hK : keyTy T 8 t = some K) (hi : T t = some i) {k : K.den} {v : Value} (hv : VR X w ρ h (avOf (isAggD i.desc) (K.cells k)) v) :
    ∀ (D : List (Nat × K.den × α)) (es : List MapEntry) (q : Nat), es.length = D.length → (∀ (j : Nat) (d : Nat × K.den × α) (e : MapEntry), D[j]? = some d → es[j]? = some e → VR X w ρ h (avOf (isAggD i.desc) (K.cells d.2.1)) e.key) →
      Instr.findNow i.desc v es q = none ∨ (midx K D k = none ∧ Instr.findNow i.desc v es q = some none) ∨ ∃ j e, midx K D k = some j ∧ es[j]? = some e ∧ Instr.findNow i.desc v es q = some (some (q + j, e.val))
  | [], [], q, _, _ => .inr (.inl ⟨rfl, by simp [Instr.findNow]⟩)
  | [], _ :: _, _, hl, _ => by simp at hl
  | _ :: _, [], _, hl, _ => by simp at hl
  | d :: D, e :: es, q, hl, hall => by
    rcases now_one hK hi hv (hall 0 d e rfl rfl) with he | he
    · exact .inl (by simp only [Instr.findNow, he])
    · cases hb : K.eqb k d.2.1 with
      | true =>
        rw [hb] at he
        exact .inr (.inr ⟨0, e, by simp only [midx, hb, cond_true], rfl, by simp only [Instr.findNow, he, Nat.add_zero]⟩)
      | false =>
        rw [hb] at he
        rcases findNow_sound hK hi hv D es (q + 1) (by simpa using hl) (fun j d' e' h1 h2 => hall (j + 1) d' e' (by simpa using h1) (by simpa using h2)) with h1 | ⟨h1, h2⟩ | ⟨j, e', h1, h2, h3⟩
        · exact .inl (by simp only [Instr.findNow, he, h1])
        · exact .inr (.inl ⟨by simp only [midx, hb, cond_false, h1, Option.map_none], by simp only [Instr.findNow, he, h2]⟩)
        · exact .inr (.inr ⟨j + 1, e', by simp only [midx, hb, cond_false, h1, Option.map_some], by simpa using h2, by simp only [Instr.findNow, he, h3, Nat.add_assoc, Nat.add_comm 1 j]⟩)
theorem find_sound (hT : TabOK P T) {α : Type} {t : TypeId} {K : Ty} {i : Inf} (hK : keyTy T 8 t = some K) (hi : T t = some i) {k : K.den} {v : Value} (hv : VR X w ρ h (avOf (isAggD i.desc) (K.cells k)) v)
    (D : List (Nat × K.den × α)) (es : List MapEntry) (hl : es.length = D.length) (hall : ∀ (j : Nat) (d : Nat × K.den × α) (e : MapEntry), D[j]? = some d → es[j]? = some e → VR X w ρ h (avOf (isAggD i.desc) (K.cells d.2.1)) e.key) :
    (midx K D k = none ∧ (Instr.findKey t v es).run P w = .ok none w) ∨ ∃ j e, midx K D k = some j ∧ es[j]? = some e ∧ (Instr.findKey t v es).run P w = .ok (some (j, e.val)) w := by
  have hu := hT.und t i hi
  rcases findNow_sound hK hi hv D es 0 hl hall with h1 | ⟨h1, h2⟩ | ⟨j, e, h1, h2, h3⟩
  · rcases asking_sound hT hK hi hv D es 0 hl hall with ⟨h2, h3⟩ | ⟨j, e, h2, h3, h4⟩
    · exact .inl ⟨h2, by simp [Instr.findKey, run_underlying hu, h1, h3]⟩
    · exact .inr ⟨j, e, h2, h3, by simpa [Instr.findKey, run_underlying hu, h1] using h4⟩
  · exact .inl ⟨h1, by simp [Instr.findKey, run_underlying hu, h2]⟩
  · exact .inr ⟨j, e, h1, h2, by simpa [Instr.findKey, run_underlying hu] using by rw [h3]; simp⟩

/-! The operations. -/
theorem setBlock_size (w : World) (b : Nat) (o : Obj) : (setBlock w b o).heap.size = w.heap.size := by simp [setBlock]
theorem setBlock_other (w : World) (b k : Nat) (o : Obj) (hk : k ≠ b) : (setBlock w b o).heap[k]? = w.heap[k]? := by
  simp only [setBlock, Array.getElem?_setIfInBounds]
  rw [if_neg (fun e => hk e.symm)]
theorem setBlock_at (w : World) (b : Nat) (o : Obj) (hb : b < w.heap.size) : (setBlock w b o).heap[b]? = some o := by
  simp only [setBlock, Array.getElem?_setIfInBounds, if_true, hb]
theorem below_setBlock {b : Nat} (hb : base ≤ b) (o : Obj) : Below base w (setBlock w b o) :=
  of_Below rfl rfl rfl (by rw [setBlock_size]; exact Nat.le_refl _) (fun j hj => setBlock_other w b j o (by omega)) (Nat.le_refl _)
theorem mapInf_some (hT : TabOK P T) {t : TypeId} {m : MInf} (hm : mapInf T t = some m) : P.underlying t = some (.map m.kt m.et) ∧ T m.kt = some m.k ∧ T m.et = some m.e ∧ keyTy T 8 m.kt = some m.K ∧ m.e.ty = some m.E ∧ m.K.size = m.k.size ∧ m.E.size = m.e.size ∧ isAggV m.e.zero = isAggD m.e.desc := by
  unfold mapInf at hm
  split at hm
  · rename_i i hi
    split at hm
    · rename_i kt et hd
      split at hm
      · rename_i k e K hk he hK
        split at hm
        · rename_i E hE
          obtain ⟨hc, hm⟩ := cond_some hm
          simp only [Bool.and_eq_true, beq_iff_eq] at hc
          cases hm
          exact ⟨by rw [← hd]; exact hT.und t i hi, hk, he, hK, hE, Nat.eq_of_beq_eq_true hc.1.1, Nat.eq_of_beq_eq_true hc.1.2, hc.2⟩
        · cases hm
      · cases hm
    · cases hm
  · cases hm
theorem VF_zero {v : Value} {a : Bool} (h : isAggV v = a) : VF a v := by
  subst h
  cases v <;> first | exact ⟨_, rfl⟩ | rfl
theorem castD_some {K K' E E' : Ty} {D : List (Nat × K'.den × E'.den)} {D' : List (Nat × K.den × E.den)} (h : castD K K' E E' D = some D') : ∃ (e1 : K' = K) (e2 : E' = E), D' = e1 ▸ e2 ▸ D := by
  unfold castD at h
  split at h
  · rename_i e; exact ⟨e.1, e.2, (Option.some.inj h).symm⟩
  · cases h
theorem atMap_sound (hh : HeapR X w ρ base h) {m : MInf} {x : AV} {v : Value} {K : Nat → List (Nat × m.K.den × m.E.den) → Nat → Option R} {r : R} (hx : VR X w ρ h x v) (hk : atMap h m x K = some r) :
    ∃ (i : Nat) (D : List (Nat × m.K.den × m.E.den)) (clk b : Nat) (es : Array MapEntry), K i D clk = some r ∧ h[i]? = some (.mp (isAggD m.k.desc) (isAggD m.e.desc) m.K m.E D clk) ∧ ρ[i]? = some (.b b) ∧ v = .map (some b) ∧ w.heap[b]? = some (.map es clk) ∧ es.size = D.length ∧
      (∀ (i : Nat) (d : Nat × m.K.den × m.E.den) (e : MapEntry), D[i]? = some d → es[i]? = some e → e.born = d.1 ∧ FV (owned X ρ) w (isAggD m.k.desc) m.K d.2.1 e.key ∧ FV (owned X ρ) w (isAggD m.e.desc) m.E d.2.2 e.val) ∧
      (∀ (i : Nat) (d : Nat × m.K.den × m.E.den), D[i]? = some d → d.1 < clk) := by
  unfold atMap at hk
  split at hk
  · rename_i i
    split at hk
    · rename_i ka ea K' E' D clk hi
      have hkc := cond_some hk
      clear hk
      obtain ⟨hc, hk⟩ := hkc
      simp only [Bool.and_eq_true, beq_iff_eq] at hc
      obtain ⟨rfl, rfl⟩ := hc
      split at hk
      · rename_i D' hD
        obtain ⟨e1, e2, hD⟩ := castD_some hD
        subst e1
        subst e2
        subst hD
        cases hx with
        | @mpv _ b hr =>
          obtain ⟨r', hr', hher⟩ := hh.ent _ _ hi
          obtain rfl := Option.some.inj (hr.symm.trans hr')
          cases hher with
          | mp hb hl hcs hcl => exact ⟨i, _, clk, b, _, hk, hi, hr, rfl, hb, hl, hcs, hcl⟩
      · cases hk
    · cases hk
  · cases hk
theorem makeMap_ops (hT : TabOK P T) (hh : HeapR X w ρ base h) (hb : base ≤ w.heap.size) {t : TypeId} {nid : Nat} {m : MInf} {K : OK R} {r : R}
    (hk : (bif fresh h nid then K (.mpv nid) [(nid, .mp (isAggD m.k.desc) (isAggD m.e.desc) m.K m.E [] 0)] else none) = some r) : OpS X base w ρ h ((do pure (Next.value (← Instr.makeMap t none)) : Sem Next).run P w) K r := by
  obtain ⟨hf, hk⟩ := cond_some hk
  obtain ⟨h1, f, h2, h3⟩ := set_entry hh (fresh_dead hf) (fresh_rho hh hf) (e := .mp (isAggD m.k.desc) (isAggD m.e.desc) m.K m.E [] 0) (rl := .b w.heap.size) (w' := w.alloc (.map #[] 0)) hb (by rw [alloc_size]; omega) (fun b hb' _ => alloc_heap w _ b hb')
    (fun n hn => by simp only [RL.block, Option.some.injEq] at hn; subst hn; rw [alloc_size]; exact ⟨.inr (Nat.le_refl _), by omega⟩) (by simp [HE.ver]) (fun _ _ _ _ _ he => by cases he) (fun _ he => by cases he)
    (fun f => .mp (heap_alloc_new w _) rfl (fun i d e hd => by simp at hd) (fun i d hd => by simp at hd))
  exact OpS.of _ (w' := w.alloc (.map #[] 0)) (v := .map (some w.heap.size)) rfl hk ⟨_, h1, .mpv h3, f, (Below.refl _ _).alloc hb _⟩
theorem lookup_ops (hT : TabOK P T) (hh : HeapR X w ρ base h) (hb : base ≤ w.heap.size) {t : TypeId} {m : MInf} (hm : mapInf T t = some m) {x ix : AV} {vx vi : Value} {ok : Bool} {K : OK R} {r : R} (hx : VR X w ρ h x vx) (hi : VR X w ρ h ix vi)
    (hk : (atMap h m x fun i D clk => match asD h m.k m.K ix with
      | some k => K (bif ok then .tup [avOf (isAggD m.e.desc) (m.E.cells (mval m.K m.E.zero D k)), .bool (mhas m.K D k)] else avOf (isAggD m.e.desc) (m.E.cells (mval m.K m.E.zero D k))) []
      | none => none) = some r) : OpS X base w ρ h ((do pure (Next.value (← Instr.lookup t vx vi ok)) : Sem Next).run P w) K r := by
  obtain ⟨hu, hkT, heT, hkey, hE, hks, hes, hag⟩ := mapInf_some hT hm
  obtain ⟨i, D, clk, b, es, hk, hmi, hr, rfl, hbk, hl, hent, hcl⟩ := atMap_sound hh hx hk
  split at hk
  · rename_i k hik
    have hns := keyTy_noSl _ _ _ hkey
    have hkv : VR X w ρ h (avOf (isAggD m.k.desc) (m.K.cells k)) vi := FV_VR (key_sound hh hns hi hik)
    have hch := fun em => check_sound (w := w) (P := P) hT em 8 m.kt m.K m.k hkey hkT 10000 (by omega) k vi hkv
    have hall : ∀ (j : Nat) (d : Nat × m.K.den × m.E.den) (e : MapEntry), D[j]? = some d → es.toList[j]? = some e → VR X w ρ h (avOf (isAggD m.k.desc) (m.K.cells d.2.1)) e.key := fun j d e hd he => FV_VR (hent j d e hd (by simpa using he)).2.1
    have fin : ∀ (y : m.E.den) (v : Value) (q : Bool), FV (owned X ρ) w (isAggD m.e.desc) m.E y v → mval m.K m.E.zero D k = y → mhas m.K D k = q → (Instr.lookup t (.map (some b)) vi ok).run P w = .ok (if ok then .tuple #[v, .bool q] else v) w → OpS X base w ρ h ((do pure (Next.value (← Instr.lookup t (.map (some b)) vi ok)) : Sem Next).run P w) K r := fun y v q hv h1 h2 hrun => by
      rw [h1, h2] at hk
      refine OpS.of _ hrun hk ⟨ρ, hh, ?_, .refl _ _ _, Below.refl _ _⟩
      have hv' := FV_VR (hh := h) hv
      cases ok with
      | true => exact .tup rfl (fun i c u hc hu => by
          match i, hc, hu with
          | 0, hc, hu => simp at hc hu; subst hc; subst hu; exact hv'
          | 1, hc, hu => simp at hc hu; subst hc; subst hu; exact .bool _)
      | false => exact hv'
    rcases find_sound hT hkey hkT hkv D es.toList (by simpa using hl) hall with ⟨h1, h2⟩ | ⟨j, e, h1, h2, h3⟩
    · obtain ⟨hg, _⟩ := midx_none h1
      obtain ⟨_, hz⟩ := hT.ty m.et m.e m.E heT hE
      refine fin m.E.zero m.e.zero false ⟨hz _ _, VF_zero hag⟩ (by simp [mval, hg]) (by simp [mhas, hg]) ?_
      simp [Instr.lookup, run_underlying hu, MapKept.run_getObj_map hbk, hch, h2, run_zeroValue hT heT, Result.andThen]
    · obtain ⟨d, hd, hg, _, _⟩ := midx_some h1
      refine fin d.2.2 e.val true (hent j d e hd (by simpa using h2)).2.2 (by simp [mval, hg]) (by simp [mhas, hg]) ?_
      simp [Instr.lookup, run_underlying hu, MapKept.run_getObj_map hbk, hch, h3, Result.andThen]
  · cases hk
theorem update_ops (hT : TabOK P T) (hh : HeapR X w ρ base h) (hb : base ≤ w.heap.size) {t : TypeId} {m : MInf} (hm : mapInf T t = some m) {x ix y : AV} {vx vi vy : Value} {K : OK R} {r : R} (hx : VR X w ρ h x vx) (hi : VR X w ρ h ix vi) (hy : VR X w ρ h y vy)
    (hk : (atMap h m x fun i D clk => match asD h m.k m.K ix, asD h m.e m.E y with
      | some k, some z => K .junk (freeze y.flat ++ [(i, .mp (isAggD m.k.desc) (isAggD m.e.desc) m.K m.E (mput m.K k z clk D) (mclk m.K D k clk))])
      | _, _ => none) = some r) : OpS X base w ρ h ((do Instr.mapUpdate t vx vi vy; pure Next.skip : Sem Next).run P w) K r := by
  obtain ⟨hu, hkT, heT, hkey, hE, hks, hes, hag⟩ := mapInf_some hT hm
  obtain ⟨i, D, clk, b, es, hk, hmi, hr, rfl, hbk, hl, hent, hcl⟩ := atMap_sound hh hx hk
  split at hk
  · rename_i k z hik hiz
    have hns := keyTy_noSl _ _ _ hkey
    have hkf := key_sound hh hns hi hik
    have hkv : VR X w ρ h (avOf (isAggD m.k.desc) (m.K.cells k)) vi := FV_VR hkf
    have hch := fun em => check_sound (w := w) (P := P) hT em 8 m.kt m.K m.k hkey hkT 10000 (by omega) k vi hkv
    have hall : ∀ (j : Nat) (d : Nat × m.K.den × m.E.den) (e : MapEntry), D[j]? = some d → es.toList[j]? = some e → VR X w ρ h (avOf (isAggD m.k.desc) (m.K.cells d.2.1)) e.key := fun j d e hd he => FV_VR (hent j d e hd (by simpa using he)).2.1
    obtain ⟨_, hcz⟩ := asD_sound hh (O' := fun _ => False) (fun _ h => h.elim) hy hiz (fun _ _ _ _ _ _ _ h => h)
    -- what is given up
    obtain ⟨ρ1, hh1, f1, hsame, hd⟩ := freeze_sound y.flat hh hb (closeAll_now hcz)
    have hno := freeze_no hh (fun i hi => (hsame i hi).1) hd
    have hnid : ∀ g, AV.own i g ∉ y.flat := fun g hm => by
      rcases closeAll_now hcz i g hm with ⟨_, _, _, _, h1⟩ | h1
      · rw [hmi] at h1; cases h1
      · rw [hmi] at h1; cases h1
    have hi1 : (applyU (freeze y.flat) h)[i]? = some (.mp (isAggD m.k.desc) (isAggD m.e.desc) m.K m.E D clk) := by rw [(hsame i hnid).2]; exact hmi
    have hr1 : ρ1[i]? = some (.b b) := by rw [(hsame i hnid).1]; exact hr
    have hzv := (asD_sound hh (O' := owned X ρ1) (fun q ho => f1.own q (by
        rcases ho with hX | ⟨r, hrm, hrn⟩
        · have := hh.ext q hX; omega
        obtain ⟨j, hj⟩ := List.mem_iff_getElem?.1 hrm
        exact (hh1.lo j r q hj hrn).2) ho) hy hiz (fun j q hm r n hr hn => hno j q hm r n hr hn)).1
    have hbs : b < w.heap.size := (Array.getElem?_eq_some_iff.1 hbk).1
    have hbb : base ≤ b := (hh.lo _ _ b hr rfl).1
    have fin : ∀ (es' : Array MapEntry), (Instr.mapUpdate t (.map (some b)) vi vy).run P w = .ok () (setBlock w b (.map es' (mclk m.K D k clk))) → es'.size = (mput m.K k z clk D).length →
        (∀ (i : Nat) (d : Nat × m.K.den × m.E.den) (e : MapEntry), (mput m.K k z clk D)[i]? = some d → es'[i]? = some e → (∃ d' e', D[i]? = some d' ∧ es[i]? = some e' ∧ d = d' ∧ e = e') ∨ (e.born = d.1 ∧ d.1 < mclk m.K D k clk ∧ d.2.1 = k ∧ e.key = vi ∧ d.2.2 = z ∧ e.val = vy)) →
        clk ≤ mclk m.K D k clk → OpS X base w ρ h ((do Instr.mapUpdate t (.map (some b)) vi vy; pure Next.skip : Sem Next).run P w) K r := fun es' hrun hsz hel hclk => by
      refine OpS.unit hh hrun hk ?_
      rw [applyU_append]
      obtain ⟨g1, g2, _, _⟩ := set_entry hh1 hi1 hr1 (e := .mp (isAggD m.k.desc) (isAggD m.e.desc) m.K m.E (mput m.K k z clk D) (mclk m.K D k clk)) (rl := .b b)
        (w' := setBlock w b (.map es' (mclk m.K D k clk))) hb (by rw [setBlock_size]; exact Nat.le_refl _)
        (fun q _ hne => setBlock_other w b q _ (fun e => hne (by rw [e]; rfl))) (fun n hn => ⟨.inl hn, by rw [setBlock_size]; exact (hh1.lo _ _ n hr1 hn).2⟩) (Nat.le_refl _)
        (fun _ _ _ _ _ he => by cases he) (fun _ he => he) (fun f => by
          refine .mp (setBlock_at w b _ hbs) hsz (fun j d e hd he => ?_) (fun j d hd => ?_)
          · rcases hel j d e hd he with ⟨d', e', h1, h2, rfl, rfl⟩ | ⟨h1, _, h3, h4, h5, h6⟩
            · obtain ⟨k1, k2, k3⟩ := hent j d e h1 h2
              exact ⟨k1, ⟨RC_fwd (f1.trans f) k2.1, k2.2⟩, ⟨RC_fwd (f1.trans f) k3.1, k3.2⟩⟩
            · rw [h3, h4, h5, h6]
              exact ⟨h1, ⟨RC_fwd (f1.trans f) hkf.1, hkf.2⟩, ⟨RC_fwd f hzv.1, hzv.2⟩⟩
          · have hj : j < es'.size := by rw [hsz]; exact (List.getElem?_eq_some_iff.1 hd).1
            rcases hel j d es'[j] hd (Array.getElem?_eq_getElem hj) with ⟨d', e', h1, h2, rfl, _⟩ | ⟨_, h2, _⟩
            · exact Nat.lt_of_lt_of_le (hcl j d h1) hclk
            · exact h2)
      exact ⟨_, g1, f1.trans g2, below_setBlock hbb _⟩
    rcases find_sound hT hkey hkT hkv D es.toList (by simpa using hl) hall with ⟨h1, h2⟩ | ⟨j, e, h1, h2, h3⟩
    · obtain ⟨hg, hput⟩ := midx_none h1
      have hclk : mclk m.K D k clk = clk + 1 := by simp [mclk, mhas, hg]
      refine fin (es.push { key := vi, val := vy, born := clk }) ?_ (by rw [hput]; simp [hl]) (fun q d e hd he => ?_) (by omega)
      · rw [hclk]
        simp [Instr.mapUpdate, run_underlying hu, MapKept.run_getObj_map hbk, hch, h2, MapKept.run_setObj_map _ hbk, Result.andThen, setBlock]
      · rw [hput] at hd
        rw [Array.getElem?_push] at he
        rw [List.getElem?_append] at hd
        split at he
        · rename_i hq
          rw [if_neg (by omega)] at hd
          have : q - D.length = 0 := by omega
          rw [this] at hd
          simp only [List.getElem?_cons_zero, Option.some.injEq] at hd he
          subst hd
          subst he
          exact .inr ⟨rfl, by simp only; omega, rfl, rfl, rfl, rfl⟩
        · rename_i hq
          have hq' : q < D.length := by have := (Array.getElem?_eq_some_iff.1 he).1; omega
          rw [if_pos hq'] at hd
          exact .inl ⟨d, e, hd, he, rfl, rfl⟩
    · obtain ⟨d, hd, hg, heq, hput⟩ := midx_some h1
      have hclk : mclk m.K D k clk = clk := by simp [mclk, mhas, hg]
      have hje : es[j]? = some e := by simpa using h2
      obtain ⟨e1, e2, e3⟩ := hent j d e hd hje
      have hkd : k = d.2.1 := (eqb_eq _ _ _ hns).1 heq
      have hkey' : e.key = vi := VF_eq e2.2 hkf.2 (RC_det _ _ _ _ hns e2.1 (by rw [← hkd]; exact hkf.1))
      have hbits : Instr.sameBits 10000 vi vi = true := bits_val hns hkf 9999
      have hjl : j < es.size := (Array.getElem?_eq_some_iff.1 hje).1
      refine fin (es.modify j fun e => { e with key := vi, val := vy }) ?_ (by rw [hput]; simp [hl]) (fun q d' e' hd' he' => ?_) (by omega)
      · rw [hclk]
        simp [Instr.mapUpdate, run_underlying hu, MapKept.run_getObj_map hbk, hch, h3, hje, hkey', Instr.keyThatStays, hbits, MapKept.run_setObj_map _ hbk, Result.andThen, setBlock]
      · rw [hput] at hd'
        rw [Array.getElem?_modify] at he'
        by_cases hjq : j = q
        · subst hjq
          rw [List.getElem?_set_self (by omega)] at hd'
          rw [if_pos rfl, hje] at he'
          simp only [Option.map_some, Option.some.injEq] at hd' he'
          subst hd'
          subst he'
          exact .inr ⟨e1, by simp only; rw [hclk]; exact hcl j d hd, rfl, rfl, rfl, rfl⟩
        · rw [List.getElem?_set_ne hjq] at hd'
          rw [if_neg hjq] at he'
          exact .inl ⟨d', e', hd', he', rfl, rfl⟩
  · cases hk
theorem range_ops (hT : TabOK P T) (hh : HeapR X w ρ base h) (hb : base ≤ w.heap.size) {t : TypeId} {nid : Nat} {m : MInf} (hm : mapInf T t = some m) {x : AV} {vx : Value} {K : OK R} {r : R} (hx : VR X w ρ h x vx)
    (hk : (atMap h m x fun i D clk => bif fresh h nid then K (.ptr nid 0) [(nid, .itr i clk [] clk)] else none) = some r) : OpS X base w ρ h ((do pure (Next.value (← Instr.range t vx)) : Sem Next).run P w) K r := by
  obtain ⟨hu, _⟩ := mapInf_some hT hm
  obtain ⟨i, D, clk, b, es, hk, hmi, hr, rfl, hbk, hl, hent, hcl⟩ := atMap_sound hh hx hk
  obtain ⟨hf, hk⟩ := cond_some hk
  have hne : i ≠ nid := fun e => by subst e; rw [fresh_dead hf] at hmi; cases hmi
  obtain ⟨h1, f, h2, h3⟩ := set_entry hh (fresh_dead hf) (fresh_rho hh hf) (e := .itr i clk [] clk) (rl := .b w.heap.size) (w' := w.alloc (.mapIter (some b) clk #[] clk)) hb (by rw [alloc_size]; omega) (fun b hb' _ => alloc_heap w _ b hb')
    (fun n hn => by simp only [RL.block, Option.some.injEq] at hn; subst hn; rw [alloc_size]; exact ⟨.inr (Nat.le_refl _), by omega⟩) (by simp [HE.ver]) (fun _ _ _ _ _ he => by cases he) (fun _ he => by cases he)
    (fun f => .itr (m := b) (by rw [List.getElem?_set_ne (fun e => hne e.symm)]; exact hr) (heap_alloc_new w _))
  exact OpS.of _ (w' := w.alloc (.mapIter (some b) clk #[] clk)) (v := .pointer (some ⟨w.heap.size, 0, none⟩)) (by simp [Instr.range, run_underlying hu, MapKept.run_getObj_map hbk, Result.andThen]) hk ⟨_, h1, .ptr h3, f, (Below.refl _ _).alloc hb _⟩
theorem iterAt_sound (hh : HeapR X w ρ base h) {it : AV} {v : Value} {K : Nat → Nat → Nat → List Nat → Nat → (ka ea : Bool) → (kt et : Ty) → List (Nat × kt.den × et.den) → Nat → Option R} {r : R} (hx : VR X w ρ h it v) (hk : iterAt h it K = some r) :
    ∃ (j i since : Nat) (seen : List Nat) (last : Nat) (ka ea : Bool) (kt et : Ty) (D : List (Nat × kt.den × et.den)) (clk n b : Nat) (es : Array MapEntry), K j i since seen last ka ea kt et D clk = some r ∧ h[j]? = some (.itr i since seen last) ∧ ρ[j]? = some (.b n) ∧ v = .pointer (some ⟨n, 0, none⟩) ∧
      w.heap[n]? = some (.mapIter (some b) since seen.toArray last) ∧ ρ[i]? = some (.b b) ∧ w.heap[b]? = some (.map es clk) ∧ es.size = D.length ∧
      (∀ (i : Nat) (d : Nat × kt.den × et.den) (e : MapEntry), D[i]? = some d → es[i]? = some e → e.born = d.1 ∧ FV (owned X ρ) w ka kt d.2.1 e.key ∧ FV (owned X ρ) w ea et d.2.2 e.val) ∧
      (∀ (i : Nat) (d : Nat × kt.den × et.den), D[i]? = some d → d.1 < clk) := by
  unfold iterAt at hk
  split at hk
  · rename_i j
    split at hk
    · rename_i i since seen last hj
      split at hk
      · rename_i ka ea kt et D clk hi
        cases hx with
        | @ptr _ n _ hr =>
          obtain ⟨r', hr', hher⟩ := hh.ent _ _ hj
          obtain rfl := Option.some.inj (hr.symm.trans hr')
          cases hher with
          | @itr _ _ _ b _ _ hri hn =>
            obtain ⟨r2, hr2, hher2⟩ := hh.ent _ _ hi
            obtain rfl := Option.some.inj (hri.symm.trans hr2)
            cases hher2 with
            | mp hb hl hcs hcl => exact ⟨j, i, since, seen, last, ka, ea, kt, et, D, clk, n, b, _, hk, hj, hr, rfl, hn, hri, hb, hl, hcs, hcl⟩
      · cases hk
    · cases hk
  · cases hk
theorem left_rel {kt et : Ty} (seen : List Nat) : ∀ (D : List (Nat × kt.den × et.den)) (es : List MapEntry), es.length = D.length → (∀ (i : Nat) (d : Nat × kt.den × et.den) (e : MapEntry), D[i]? = some d → es[i]? = some e → e.born = d.1) →
    (leftD D seen).length = (es.filter fun e => !seen.toArray.contains e.born).length ∧ ∀ e ∈ es.filter (fun e => !seen.toArray.contains e.born), ∃ (i : Nat) (d : Nat × kt.den × et.den), D[i]? = some d ∧ es[i]? = some e ∧ d ∈ leftD D seen
  | [], [], _, _ => ⟨rfl, by simp⟩
  | [], _ :: _, hl, _ => by simp at hl
  | _ :: _, [], hl, _ => by simp at hl
  | d :: D, e :: es, hl, hb => by
    obtain ⟨h1, h2⟩ := left_rel seen D es (by simpa using hl) (fun i d e hd he => hb (i + 1) d e (by simpa using hd) (by simpa using he))
    have hbe := hb 0 d e rfl rfl
    have hc : memN seen d.1 = seen.toArray.contains e.born := by
      rw [hbe, Bool.eq_iff_iff, memN_true]
      simp
    simp only [leftD] at h1 h2 ⊢
    rw [List.filter_cons, List.filter_cons, hc]
    cases seen.toArray.contains e.born with
    | true =>
      simp only [Bool.not_true, Bool.false_eq_true, if_false]
      refine ⟨h1, fun e' he' => ?_⟩
      obtain ⟨i, d', k1, k2, k3⟩ := h2 e' he'
      exact ⟨i + 1, d', by simpa using k1, by simpa using k2, k3⟩
    | false =>
      simp only [Bool.not_false, if_true]
      refine ⟨by simp [h1], fun e' he' => ?_⟩
      rcases List.mem_cons.1 he' with rfl | he'
      · exact ⟨0, d, rfl, rfl, by simp⟩
      · obtain ⟨i, d', k1, k2, k3⟩ := h2 e' he'
        exact ⟨i + 1, d', by simpa using k1, by simpa using k2, by simp [k3]⟩
theorem next_ops (hT : TabOK P T) (hh : HeapR X w ρ base h) (hb : base ≤ w.heap.size) {ty : TypeId} {it : AV} {v : Value} {K : OK R} {r : R} (hx : VR X w ρ h it v)
    (hk : (iterAt h it fun j i since seen last ka ea kt et D clk => bif Nat.beq clk since && Nat.ble since last then
      (bif (leftD D seen).isEmpty then K (.tup [.bool false]) [] else demon (leftD D seen) fun d => K (.tup [.bool true, avOf ka (kt.cells d.2.1), avOf ea (et.cells d.2.2)]) [(j, .itr i since (seen ++ [d.1]) clk)])
    else none) = some r) : OpS X base w ρ h ((do pure (Next.value (← Instr.next v false ty)) : Sem Next).run P w) K r := by
  obtain ⟨j, i, since, seen, last, ka, ea, kt, et, D, clk, n, b, es, hk, hj, hrj, rfl, hn, hri, hbk, hl, hent, hcl⟩ := iterAt_sound hh hx hk
  have hkc := cond_some hk
  clear hk
  obtain ⟨hc, hk⟩ := hkc
  rw [Bool.and_eq_true] at hc
  obtain rfl := Nat.eq_of_beq_eq_true hc.1
  have hsl := Nat.le_of_ble_eq_true hc.2
  obtain ⟨hlen, hmem⟩ := left_rel seen D es.toList (by simpa using hl) (fun i d e hd he => (hent i d e hd (by simpa using he)).1)
  have hold : ∀ x ∈ es.toList, x.born < clk := fun x hx => by
    obtain ⟨q, hq⟩ := List.mem_iff_getElem?.1 hx
    have hq' : q < D.length := by have := (List.getElem?_eq_some_iff.1 hq).1; simp at this; omega
    rw [(hent q D[q] x (List.getElem?_eq_getElem hq') (by simpa using hq)).1]
    exact hcl q _ (List.getElem?_eq_getElem hq')
  have hlo : (leftOf es seen.toArray).toList = es.toList.filter fun e => !seen.toArray.contains e.born := by simp [leftOf]
  rcases run_next_at (P := P) w ty n b clk last seen.toArray es clk hn hbk hold hsl with ⟨h0, hrun⟩ | ⟨e, he, w1, hw1, hrun⟩
  · have hz : (leftD D seen).isEmpty = true := by
      rw [List.isEmpty_iff]
      apply List.eq_nil_of_length_eq_zero
      rw [hlen, ← hlo, Array.length_toList, h0]
    rw [hz, cond_true] at hk
    exact OpS.of _ hrun hk ⟨ρ, hh, .tup rfl (fun i c u hc hu => by
      match i, hc, hu with
      | 0, hc, hu => simp at hc hu; subst hc; subst hu; exact .bool _), .refl _ _ _, Below.refl _ _⟩
  · rw [hlo] at he
    obtain ⟨q, d, hd, heq, hdl⟩ := hmem e he
    obtain ⟨k1, k2, k3⟩ := hent q d e hd (by simpa using heq)
    have hz : (leftD D seen).isEmpty = false := by
      cases hq : leftD D seen with
      | nil => rw [hq] at hdl; simp at hdl
      | cons => rfl
    rw [hz, cond_false] at hk
    have hk := demon_all hk d hdl
    have hw1s : w1.heap = w.heap := by rcases hw1 with rfl | rfl <;> rfl
    have hns : n < w.heap.size := (Array.getElem?_eq_some_iff.1 hn).1
    have hnb : base ≤ n := (hh.lo _ _ n hrj rfl).1
    obtain ⟨g1, g2, g3, g4⟩ := set_entry hh hj hrj (e := .itr i clk (seen ++ [d.1]) clk) (rl := .b n) (w' := setBlock w1 n (.mapIter (some b) clk (seen.toArray.push e.born) clk)) hb (by rw [setBlock_size, hw1s]; exact Nat.le_refl _)
      (fun q _ hne => by rw [setBlock_other w1 n q _ (fun e => hne (by rw [e]; rfl)), hw1s]) (fun m hm => ⟨.inl hm, by rw [setBlock_size, hw1s]; exact (hh.lo _ _ m hrj hm).2⟩) (Nat.le_refl _)
      (fun _ _ _ _ _ he => by cases he) (fun _ he => he) (fun f => .itr (m := b) (f.rb _ _ hri) (by rw [setBlock_at w1 n _ (by rw [hw1s]; exact hns), ← k1]; simp))
    refine OpS.of _ hrun hk ⟨_, g1, .tup rfl (fun i c u hc hu => ?_), g2, ?_⟩
    · match i, hc, hu with
      | 0, hc, hu => simp at hc hu; subst hc; subst hu; exact .bool _
      | 1, hc, hu => simp at hc hu; subst hc; subst hu; exact VR_fwd g2 (FV_VR k2)
      | 2, hc, hu => simp at hc hu; subst hc; subst hu; exact VR_fwd g2 (FV_VR k3)
    · rcases hw1 with rfl | rfl
      · exact below_setBlock hnb _
      · exact (Below.refl base w).drew.trans (below_setBlock hnb _)
theorem lastSeen_back : ∀ l : List Nat, lastSeen l = l.toArray.back?
  | [] => rfl
  | [a] => rfl
  | a :: b :: r => by
    have := lastSeen_back (b :: r)
    simp only [lastSeen, this]
    simp
theorem find_rel {kt et : Ty} (s : Nat) : ∀ (D : List (Nat × kt.den × et.den)) (es : List MapEntry), es.length = D.length → (∀ (i : Nat) (d : Nat × kt.den × et.den) (e : MapEntry), D[i]? = some d → es[i]? = some e → e.born = d.1) →
    ∀ d, D.find? (fun d => Nat.beq d.1 s) = some d → ∃ (i : Nat) (e : MapEntry), D[i]? = some d ∧ es[i]? = some e ∧ es.find? (fun e => e.born == s) = some e
  | [], _, _, _, _, h => by simp at h
  | _ :: _, [], hl, _, _, _ => by simp at hl
  | d :: D, e :: es, hl, hb, d', h => by
    have hbe := hb 0 d e rfl rfl
    rw [List.find?_cons] at h
    have hc : Nat.beq d.1 s = (e.born == s) := by rw [hbe, Bool.eq_iff_iff, beq_iff_eq]; exact ⟨Nat.eq_of_beq_eq_true, fun h => by rw [h]; exact Nat.beq_refl s⟩
    rw [hc] at h
    rw [List.find?_cons]
    cases hq : (e.born == s) with
    | true =>
      rw [hq] at h
      cases h
      exact ⟨0, e, rfl, rfl, rfl⟩
    | false =>
      rw [hq] at h
      obtain ⟨i, e', k1, k2, k3⟩ := find_rel s D es (by simpa using hl) (fun i d e hd he => hb (i + 1) d e (by simpa using hd) (by simpa using he)) d' h
      exact ⟨i + 1, e', by simpa using k1, by simpa using k2, k3⟩
theorem entry_ops (hT : TabOK P T) (hh : HeapR X w ρ base h) (hb : base ≤ w.heap.size) {it : AV} {v : Value} {K : OK R} {r : R} (hx : VR X w ρ h it v)
    (hk : (iterAt h it fun j i since seen last ka ea kt et D clk => bif Nat.beq clk last then optb (entryD D seen) fun d => K (.tup [avOf ka (kt.cells d.1), avOf ea (et.cells d.2)]) [] else none) = some r) : OpS X base w ρ h ((do pure (Next.value (← Instr.entry v)) : Sem Next).run P w) K r := by
  obtain ⟨j, i, since, seen, last, ka, ea, kt, et, D, clk, n, b, es, hk, hj, hrj, rfl, hn, hri, hbk, hl, hent, hcl⟩ := iterAt_sound hh hx hk
  have hkc := cond_some hk
  clear hk
  obtain ⟨hc, hk⟩ := hkc
  obtain rfl := Nat.eq_of_beq_eq_true hc
  obtain ⟨d, hd, hk⟩ := optb_some hk
  unfold entryD at hd
  split at hd
  · rename_i s hs
    rw [lastSeen_back] at hs
    rw [Option.map_eq_some_iff] at hd
    obtain ⟨d', hd', rfl⟩ := hd
    obtain ⟨q, e, k1, k2, k3⟩ := find_rel s D es.toList (by simpa using hl) (fun i d e hd he => (hent i d e hd (by simpa using he)).1) d' hd'
    obtain ⟨_, m2, m3⟩ := hent q d' e k1 (by simpa using k2)
    have hfd : es.find? (fun e => e.born == s) = some e := by rw [← Array.find?_toList]; exact k3
    have hrun : (Instr.entry (.pointer (some ⟨n, 0, none⟩))).run P w = .ok (.tuple #[e.key, e.val]) w := by
      simp only [Instr.entry, getObj, Sem.run_bind, Sem.run, hn, hbk, Result.andThen, hs, bne_self_eq_false, Bool.false_eq_true, if_false, hfd]
      rfl
    exact OpS.of _ hrun hk ⟨ρ, hh, .tup rfl (fun i c u hc hu => by
      match i, hc, hu with
      | 0, hc, hu => simp at hc hu; subst hc; subst hu; exact FV_VR m2
      | 1, hc, hu => simp at hc hu; subst hc; subst hu; exact FV_VR m3), .refl _ _ _, Below.refl _ _⟩
  · cases hd
theorem mapL_ops (hT : TabOK P T) (hh : HeapR X w ρ base h) (hb : base ≤ w.heap.size) {A : Operand → AV} {B : Operand → Value} (hAB : ∀ x, VR X w ρ h (A x) (B x)) {o : Oper} {nid : Nat} {K : OK R} {r : R}
    (hk : mapL T o.op A h nid K = some r) : OpS X base w ρ h ((execOp B o).run P w) K r := by
  unfold mapL at hk
  split at hk
  · rename_i t hop
    split at hk
    · rename_i m hm
      have e : execOp B o = (do pure (Next.value (← Instr.makeMap t none)) : Sem Next) := by simp only [execOp, hop]; rfl
      rw [e]
      exact makeMap_ops hT hh hb hk
    · cases hk
  · rename_i t x ix ok hop
    split at hk
    · rename_i m hm
      have e : execOp B o = (do pure (Next.value (← Instr.lookup t (B x) (B ix) ok)) : Sem Next) := by simp only [execOp, hop]
      rw [e]
      exact lookup_ops hT hh hb hm (hAB x) (hAB ix) hk
    · cases hk
  · rename_i t x ix v hop
    split at hk
    · rename_i m hm
      have e : execOp B o = (do Instr.mapUpdate t (B x) (B ix) (B v); pure Next.skip : Sem Next) := by simp only [execOp, hop]
      rw [e]
      exact update_ops hT hh hb hm (hAB x) (hAB ix) (hAB v) hk
    · cases hk
  · rename_i t x hop
    split at hk
    · rename_i m hm
      have e : execOp B o = (do pure (Next.value (← Instr.range t (B x))) : Sem Next) := by simp only [execOp, hop]
      rw [e]
      exact range_ops hT hh hb hm (hAB x) hk
    · cases hk
  · cases hk
theorem iterK_ops (hT : TabOK P T) (hh : HeapR X w ρ base h) (hb : base ≤ w.heap.size) {A : Operand → AV} {B : Operand → Value} (hAB : ∀ x, VR X w ρ h (A x) (B x)) {o : Oper} {K : OK R} {r : R}
    (hk : iterK A h o.op K = some r) : OpS X base w ρ h ((execOp B o).run P w) K r := by
  unfold iterK at hk
  split at hk
  · rename_i it str hop
    cases str with
    | true => cases hk
    | false =>
      have e : execOp B o = (do pure (Next.value (← Instr.next (B it) false o.type)) : Sem Next) := by simp only [execOp, hop]
      rw [e]
      exact next_ops hT hh hb (hAB it) hk
  · rename_i it hop
    have e : execOp B o = (do pure (Next.value (← Instr.entry (B it))) : Sem Next) := by simp only [execOp, hop]
    rw [e]
    exact entry_ops hT hh hb (hAB it) hk
  · cases hk
end
end Go.Proofs.YtibdnfknokkadaaDoor.Ev
