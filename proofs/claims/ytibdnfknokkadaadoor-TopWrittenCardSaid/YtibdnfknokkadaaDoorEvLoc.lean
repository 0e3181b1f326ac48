/- An operation hangs on no more than what its operands lead to. -/
import Derived.Test.YtibdnfknokkadaaDoorEvNat
set_option linter.unusedVariables false
set_option linter.unusedSimpArgs false
namespace Go.Proofs.YtibdnfknokkadaaDoor.Ev
open Go Go.RowKit

section
variable {R : Type} {h h' : List HE} {T : Tab} {F : PT}
def Same (h h' : List HE) (ids : List Nat) : Prop := ∀ i ∈ ids, h[i]? = h'[i]?
theorem Same.left {a b : List Nat} (s : Same h h' (a ++ b)) : Same h h' a := fun i hi => s i (List.mem_append_left _ hi)
theorem Same.right {a b : List Nat} (s : Same h h' (a ++ b)) : Same h h' b := fun i hi => s i (List.mem_append_right _ hi)
theorem idsOf_append (a b : List AV) : idsOf (a ++ b) = idsOf a ++ idsOf b := by
  induction a with
  | nil => rfl
  | cons c a ih => simp [idsOf, ih]
theorem idOf_flat {c : AV} {i : Nat} (hi : i ∈ c.idOf) : i ∈ idsOf c.flat := by
  cases c <;> simp only [AV.idOf, List.not_mem_nil, List.mem_singleton] at hi <;> simp [AV.flat, idsOf, AV.idOf, hi]
theorem closeSl_loc {τ : Ty} {c : AV} (s : Same h h' c.idOf) : closeSl τ h c = closeSl τ h' c := by
  cases c with
  | own i g => simp only [closeSl, s i (by simp [AV.idOf])]
  | _ => rfl
theorem close_loc : ∀ (t : Ty) (cs : List AV), Same h h' (idsOf cs) → t.close h cs = t.close h' cs
  | .int _, [], _ => rfl
  | .int _, c :: _, _ => by cases c <;> rfl
  | .bool, [], _ => rfl
  | .bool, c :: _, _ => by cases c <;> rfl
  | .str, [], _ => rfl
  | .str, c :: _, _ => by cases c <;> rfl
  | .sl t, [], _ => rfl
  | .sl t, c :: r, s => by simp only [Ty.close, closeSl_loc (Same.left (b := idsOf r) s)]
  | .pair a b, cs, s => by
    simp only [Ty.close, close_loc a cs s]
    cases hc : a.close h' cs with
    | none => rfl
    | some p =>
      obtain ⟨x, r⟩ := p
      obtain ⟨q, hq, _⟩ := close_now a cs x r hc
      have s' : Same h h' (idsOf r) := by rw [hq, idsOf_append] at s; exact s.right
      simp only [close_loc b r s']
theorem closeAll_loc {t : Ty} {cs : List AV} (s : Same h h' (idsOf cs)) : t.closeAll h cs = t.closeAll h' cs := by
  unfold Ty.closeAll; rw [close_loc t cs s]
theorem behindK_loc {p : AV} {K : List AV → Option R} (s : Same h h' p.idOf) : behindK h p K = behindK h' p K := by
  cases p with
  | ptr i o => simp only [behindK, s i (by simp [AV.idOf])]
  | eptr i g z k o => simp only [behindK, s i (by simp [AV.idOf])]
  | _ => rfl
theorem cells_ids : ∀ (t : Ty) (x : t.den), idsOf (t.cells x) = []
  | .int _, _ => rfl
  | .bool, _ => rfl
  | .str, _ => rfl
  | .sl _, _ => rfl
  | .pair a b, x => by simp [Ty.cells, idsOf_append, cells_ids a, cells_ids b]
theorem ids_take {cs : List AV} {n i : Nat} (hi : i ∈ idsOf (cs.take n)) : i ∈ idsOf cs := by
  have : idsOf cs = idsOf (cs.take n) ++ idsOf (cs.drop n) := by rw [← idsOf_append, List.take_append_drop]
  rw [this]; exact List.mem_append_left _ hi
theorem ids_drop {cs : List AV} {n i : Nat} (hi : i ∈ idsOf (cs.drop n)) : i ∈ idsOf cs := by
  have : idsOf cs = idsOf (cs.take n) ++ idsOf (cs.drop n) := by rw [← idsOf_append, List.take_append_drop]
  rw [this]; exact List.mem_append_right _ hi
theorem storeK_loc {p : AV} {vs : List AV} {K : OK R} (s : Same h h' (p.idOf ++ idsOf vs)) : storeK h p vs K = storeK h' p vs K := by
  cases p with
  | ptr i o => simp only [storeK, s i (by simp [AV.idOf])]
  | eptr i g z k o =>
    simp only [storeK, s i (by simp [AV.idOf])]
    have e : ∀ (t : Ty) (x : t.den), t.closeAll h ((t.cells x).take o ++ vs ++ (t.cells x).drop (o + vs.length)) = t.closeAll h' ((t.cells x).take o ++ vs ++ (t.cells x).drop (o + vs.length)) := fun t x => closeAll_loc (fun j hj => by
      rw [idsOf_append, idsOf_append] at hj
      simp only [List.mem_append] at hj
      rcases hj with (hj | hj) | hj
      · have := ids_take hj; rw [cells_ids] at this; simp at this
      · exact s.right j hj
      · have := ids_drop hj; rw [cells_ids] at this; simp at this)
    simp only [e]
  | _ => rfl
theorem nilCmp_loc {t : TypeId} {x y : AV} (s : Same h h' x.idOf) : nilCmp T t h x y = nilCmp T t h' x y := by
  have e : nilSl h x = nilSl h' x := by
    cases x with
    | own i g => simp only [nilSl, s i (by simp [AV.idOf])]
    | _ => rfl
  simp only [nilCmp, e]
theorem eqCmp_loc {t : TypeId} {x y : AV} (s : Same h h' x.idOf) : eqCmp T t h x y = eqCmp T t h' x y := by
  unfold eqCmp
  split
  · rfl
  · exact nilCmp_loc s
theorem binK_loc {op : BinOp} {t : TypeId} {x y : AV} {K : AV → Option R} : binK T h op t x y K = binK T h' op t x y K := rfl
theorem lenT_loc {d : TypeDesc} {x : AV} {K : AV → Option R} (s : Same h h' x.idOf) : lenT h d x K = lenT h' d x K := by
  have e : lenSl h x K = lenSl h' x K := by
    cases x with
    | own i g => simp only [lenSl, s i (by simp [AV.idOf])]
    | _ => rfl
  simp only [lenT, e]
theorem srcSl_loc {t : Ty} {x : AV} (s : Same h h' x.idOf) : srcSl t h x = srcSl t h' x := by
  cases x with
  | vw i g z k n => simp only [srcSl, s i (by simp [AV.idOf])]
  | own i g => simp only [srcSl, closeSl_loc s]
  | _ => rfl
theorem appendK_loc {nid : Nat} {t : TypeId} {a x : AV} {K : OK R} (s : Same h h' (a.idOf ++ x.idOf)) (hf : fresh h nid = fresh h' nid) : appendK T h nid t a x K = appendK T h' nid t a x K := by
  unfold appendK
  split
  · rw [srcSl_loc s.right]
    cases a with
    | own i g => simp only [s i (by simp [AV.idOf])]
    | nils => simp only [hf]
    | slz nl => simp only [hf]
    | _ => rfl
  · rfl
theorem litL_loc {τ : Ty} {A : Operand → AV} : ∀ (ps : List (Nat × Operand)) (i : Nat), Same h h' (idsOf (litCells A ps)) → litL τ h A ps i = litL τ h' A ps i
  | [], _, _ => rfl
  | (j, x) :: r, i, s => by
    simp only [litCells, idsOf_append] at s
    simp only [litL, closeAll_loc s.left, litL_loc r (i + 1) s.right]
theorem convertK_loc {a d : TypeId} {x : AV} {K : AV → Option R} (s : Same h h' x.idOf) : convertK T h a d x K = convertK T h' a d x K := by
  unfold convertK
  split
  · rfl
  · rfl
  · split
    · split
      · simp only [closeSl_loc (τ := .int .u8) s]
      · rfl
    · rfl
  · rfl
theorem sliceK_loc {t : TypeId} {x : AV} {lo hi mx : Option AV} {K : OK R} (s : Same h h' x.idOf) : sliceK T h t x lo hi mx K = sliceK T h' t x lo hi mx K := by
  unfold sliceK
  have e : nilSl h x = nilSl h' x := by
    cases x with
    | own i g => simp only [nilSl, s i (by simp [AV.idOf])]
    | _ => rfl
  split
  · rw [e]
  · split
    · rfl
    · rfl
    · rename_i id g _
      simp only [s id (by simp [AV.idOf])]
    · rfl
  · rfl
theorem allFresh_loc : ∀ (n nid : Nat), (∀ j, j < n → fresh h (nid + j) = fresh h' (nid + j)) → allFresh h nid n = allFresh h' nid n
  | 0, _, _ => rfl
  | n + 1, nid, e => by
    simp only [allFresh]
    rw [show fresh h nid = fresh h' nid from e 0 (by omega), allFresh_loc n (nid + 1) (fun j hj => by have := e (j + 1) (by omega); rw [show nid + 1 + j = nid + (j + 1) by omega]; exact this)]
theorem pureK_loc {p : PF} {fr : List (Option TypeId)} {args : List AV} {nid : Nat} {K : OK R} (s : Same h h' (idsOf (flats args))) (hf : ∀ j, j < frN fr → fresh h (nid + j) = fresh h' (nid + j)) : pureK p fr args h nid K = pureK p fr args h' nid K := by
  simp only [pureK, PF.closeP, closeAll_loc s, allFresh_loc _ _ hf]
theorem flats_append (a b : List AV) : flats (a ++ b) = flats a ++ flats b := by
  induction a with
  | nil => rfl
  | cons c a ih => simp [flats, ih]
theorem closK_loc {F : PT} {g : FuncId} {args : List AV} {K : OK R} (s : Same h h' (idsOf (flats args))) : closK F g args h K = closK F g args h' K := by
  unfold closK
  cases hca : closArg args with
  | none => rfl
  | some q =>
    obtain ⟨init, g', i⟩ := q
    have ea := closArg_eq args hca
    simp only at ea
    subst ea
    rw [flats_append, idsOf_append] at s
    have hi : h[i]? = h'[i]? := s i (by simp [flats, AV.flat, idsOf, AV.idOf])
    simp only
    rw [hi]
    split
    · rename_i p cs _ _
      rw [closeAll_loc s.left]
      cases hc : Nat.beq (idsOf cs).length 0 with
      | false => rw [Bool.and_false]; rfl
      | true =>
        have e0 : idsOf cs = [] := List.eq_nil_of_length_eq_zero (Nat.eq_of_beq_eq_true hc)
        rw [closeAll_loc (h := h) (h' := h') (t := p.κ) (cs := cs) (by rw [e0]; intro i hi; simp at hi)]
    · rfl
theorem sortK_loc {F : PT} {g : FuncId} {args : List AV} {K : OK R} (s : Same h h' (idsOf (flats args))) : sortK F g args h K = sortK F g args h' K := by
  unfold sortK
  split
  · rename_i x g'
    split
    · split
      · rfl
      · rename_i i v
        rw [s i (by simp [flats, AV.flat, idsOf, AV.idOf])]
      · rfl
    · rfl
  · rfl
theorem fp_mem {xs : List Operand} {A : Operand → AV} {x : Operand} (hx : x ∈ xs) {i : Nat} (hi : i ∈ idsOf (A x).flat) : i ∈ idsOf (flats (xs.map A)) := by
  induction xs with
  | nil => simp at hx
  | cons y xs ih =>
    simp only [List.map_cons, flats, idsOf_append, List.mem_append]
    rcases List.mem_cons.1 hx with rfl | hx
    · exact .inl hi
    · exact .inr (ih hx)
theorem fp_same {xs : List Operand} {A : Operand → AV} (s : Same h h' (idsOf (flats (xs.map A)))) {x : Operand} (hx : x ∈ xs) : Same h h' (A x).idOf := fun i hi => s i (fp_mem hx (idOf_flat hi))
theorem lit_ids {A : Operand → AV} (ps : List (Nat × Operand)) : litCells A ps = flats ((ps.map (·.2)).map A) := by
  induction ps with
  | nil => rfl
  | cons p r ih => simp [litCells, flats, ih]
theorem litL_A {τ : Ty} {A A' : Operand → AV} : ∀ (ps : List (Nat × Operand)) (i : Nat), (∀ x ∈ ps.map (·.2), A x = A' x) → litL τ h A ps i = litL τ h A' ps i ∧ litCells A ps = litCells A' ps
  | [], _, _ => ⟨rfl, rfl⟩
  | (j, x) :: r, i, e => by
    obtain ⟨h1, h2⟩ : litL τ h A r (i + 1) = litL τ h A' r (i + 1) ∧ litCells A r = litCells A' r := litL_A r (i + 1) (fun y hy => e y (by simp only [List.map_cons, List.mem_cons]; exact .inr hy))
    have hx : A x = A' x := e x (by simp)
    simp only [litL, litCells, hx, h1, h2, and_self]
theorem rowL_A {sz : Nat} {A A' : Operand → AV} : ∀ (ps : List (Nat × Operand)) (i : Nat), (∀ x ∈ ps.map (·.2), A x = A' x) → rowL sz A ps i = rowL sz A' ps i
  | [], _, _ => rfl
  | (j, x) :: r, i, e => by
    have h1 : rowL sz A r (i + 1) = rowL sz A' r (i + 1) := rowL_A r (i + 1) (fun y hy => e y (by simp only [List.map_cons, List.mem_cons]; exact .inr hy))
    have hx : A x = A' x := e x (by simp)
    simp only [rowL, hx, h1]
theorem partsOf_A {i : Inf} {A A' : Operand → AV} : ∀ (ps : List (Nat × Operand)), (∀ x ∈ ps.map (·.2), A x = A' x) → partsOf T i A ps = partsOf T i A' ps
  | [], _ => rfl
  | (j, x) :: r, e => by
    have h1 : partsOf T i A r = partsOf T i A' r := partsOf_A r (fun y hy => e y (by simp only [List.map_cons, List.mem_cons]; exact .inr hy))
    have hx : A x = A' x := e x (by simp)
    simp only [partsOf, hx, h1]
theorem loc_local0 {o : Op} {A A' : Operand → AV} {nid : Nat} {K : OK R} (hA : ∀ x ∈ o.operands.toList, A x = A' x) (s : Same h h' (fpOf o A)) (hf : ∀ j, j < makesN F o → fresh h (nid + j) = fresh h' (nid + j)) :
    locK0 T F o A h nid K = locK0 T F o A' h' nid K := by
  have same : ∀ x ∈ o.operands.toList, Same h h' (A x).idOf := fun x hx => fp_same s hx
  have hf0 : 0 < makesN F o → fresh h nid = fresh h' nid := fun h0 => hf 0 h0
  cases o with
  | call c =>
    simp only [locK0]
    cases hc : c.callee with
    | builtin b =>
      simp only
      have hargs : c.args.toList.map A = c.args.toList.map A' := List.map_congr_left fun x hx => hA x (by simp [Op.operands, Call.operands, hc, hx])
      have sargs : ∀ x ∈ c.args.toList.map A', Same h h' x.idOf := fun x hx => by
        rw [← hargs] at hx
        obtain ⟨y, hy, rfl⟩ := List.mem_map.1 hx
        exact same y (by simp [Op.operands, Call.operands, hc, hy])
      rw [hargs]
      generalize c.args.toList.map A' = args at sargs
      unfold builtinK
      split
      · split
        · exact lenT_loc (sargs _ (by simp))
        · rfl
      · rename_i s x
        split
        · rename_i t t' _ _
          congr 1
          exact appendK_loc (fun i hi => by
            rcases List.mem_append.1 hi with hi | hi
            · exact sargs s (by simp) i hi
            · exact sargs x (by simp) i hi) (hf0 (by simp only [makesN, hc]; omega))
        · rfl
      · rfl
      · rfl
      · rfl
    | value f =>
      simp only
      have hf' : A f = A' f := hA f (by simp [Op.operands, Call.operands, hc])
      have hargs : c.args.toList.map A = c.args.toList.map A' := List.map_congr_left fun x hx => hA x (by simp [Op.operands, Call.operands, hc, hx])
      rw [← hf', ← hargs]
      split
      · split
        · rename_i g _ _ p hp
          refine pureK_loc (fun i hi => s i ?_) (fun j hj => hf j ?_)
          rotate_left
          · cases f with
            | func g' =>
              simp only [frOf] at hj
              cases hb : Nat.beq g' g with
              | true =>
                rw [hb] at hj
                have := Nat.eq_of_beq_eq_true hb
                subst this
                simp only [makesN, hc, hp]
                exact hj
              | false => rw [hb] at hj; simp [frN] at hj
            | _ => simp [frOf, frN] at hj
          simp only [fpOf, Op.operands, Call.operands, hc]
          have : (#[f] ++ c.args).toList.map A = A f :: c.args.toList.map A := by simp
          rw [this]
          simp only [flats, idsOf_append, List.mem_append]
          exact .inr hi
        · have s' : Same h h' (idsOf (flats (c.args.toList.map A))) := fun i hi => s i (by
            simp only [fpOf, Op.operands, Call.operands, hc]
            have : (#[f] ++ c.args).toList.map A = A f :: c.args.toList.map A := by simp
            rw [this]
            simp only [flats, idsOf_append, List.mem_append]
            exact .inr hi)
          rw [sortK_loc s']
          congr 1
          refine closK_loc (fun i hi => s i ?_)
          simp only [fpOf, Op.operands, Call.operands, hc]
          have : (#[f] ++ c.args).toList.map A = A f :: c.args.toList.map A := by simp
          rw [this]
          simp only [flats, idsOf_append, List.mem_append]
          exact .inr hi
      · rfl
    | invoke r m => rfl
  | move x => simp only [locK0, opK, hA x (by simp [Op.operands])]
  | assign x => simp only [locK0, opK, hA x (by simp [Op.operands])]
  | pick c a b => simp only [locK0, opK, hA c (by simp [Op.operands]), hA a (by simp [Op.operands]), hA b (by simp [Op.operands])]
  | alloc e => simp only [locK0, opK, hf0 (Nat.one_pos)]
  | box e x => simp only [locK0, opK, hf0 (Nat.one_pos), hA x (by simp [Op.operands])]
  | build t ps =>
    have := fun i => partsOf_A (T := T) (i := i) (A := A) (A' := A') ps.toList (fun x hx => hA x (by simpa [Op.operands] using hx))
    simp only [locK0, opK, this]
  | buildSlice t n ps =>
    have h1 := fun τ => litL_A (h := h) (τ := τ) (A := A) (A' := A') ps.toList 0 (fun x hx => hA x (by simpa [Op.operands] using hx))
    have h2 := fun τ => litL_loc (h := h) (h' := h') (τ := τ) (A := A) ps.toList 0 (by
      rw [lit_ids]
      simpa [fpOf, Op.operands] using s)
    have h3 : ∀ τ, litL τ h A ps.toList 0 = litL τ h' A' ps.toList 0 := fun τ => by
      rw [h2 τ]; exact (litL_A (h := h') (τ := τ) (A := A) (A' := A') ps.toList 0 (fun x hx => hA x (by simpa [Op.operands] using hx))).1
    have h4 := (h1 .bool).2
    have h5 := fun sz => rowL_A (sz := sz) (A := A) (A' := A') ps.toList 0 (fun x hx => hA x (by simpa [Op.operands] using hx))
    simp only [locK0, opK, hf0 (Nat.one_pos), h3, h4, h5]
  | load t x =>
    have e := hA x (by simp [Op.operands])
    have l := same x (by simp [Op.operands])
    simp only [locK0, opK, ← e, behindK_loc l]
  | store t a x =>
    have e1 := hA a (by simp [Op.operands])
    have e2 := hA x (by simp [Op.operands])
    have l : Same h h' ((A a).idOf ++ idsOf (A x).flat) := fun i hi => by
      rcases List.mem_append.1 hi with hi | hi
      · exact same a (by simp [Op.operands]) i hi
      · exact s i (fp_mem (by simp [Op.operands]) hi)
    simp only [locK0, opK, ← e1, ← e2, storeK_loc l]
  | nilCheck x => simp only [locK0, opK, hA x (by simp [Op.operands])]
  | binOp op t x y yt =>
    have e1 := hA x (by simp [Op.operands])
    have e2 := hA y (by simp [Op.operands])
    have l := fun t => eqCmp_loc (T := T) (t := t) (y := A y) (same x (by simp [Op.operands]))
    cases op <;> simp only [locK0, opK, ← e1, ← e2, l] <;> rfl
  | unOp op t x => simp only [locK0, opK, hA x (by simp [Op.operands])]
  | convert a d x =>
    have e := hA x (by simp [Op.operands])
    simp only [locK0, opK, ← e, convertK_loc (same x (by simp [Op.operands]))]
  | makeFunc f a b =>
    have e1 : a.toList.map A = a.toList.map A' := List.map_congr_left fun x hx => hA x (by simp [Op.operands]; exact .inl (by simpa using hx))
    have e2 : b.toList.map A = b.toList.map A' := List.map_congr_left fun x hx => hA x (by simp [Op.operands]; exact .inr (by simpa using hx))
    simp only [locK0, opK, e1, e2]
  | makeSlice t l c => simp only [locK0, opK, hf0 (Nat.one_pos), hA l (by simp [Op.operands]), hA c (by simp [Op.operands])]
  | slice t x lo hi mx =>
    have e := hA x (by simp [Op.operands])
    have e1 : lo.map A = lo.map A' := by cases lo with | none => rfl | some y => simp [hA y (by simp [Op.operands])]
    have e2 : hi.map A = hi.map A' := by cases hi with | none => rfl | some y => simp [hA y (by simp [Op.operands])]
    have e3 : mx.map A = mx.map A' := by cases mx with | none => rfl | some y => simp [hA y (by simp [Op.operands])]
    simp only [locK0, opK, e1, e2, e3, ← e, sliceK_loc (same x (by simp [Op.operands]))]
  | fieldAddr a x f => simp only [locK0, opK, hA x (by simp [Op.operands])]
  | field a x f => simp only [locK0, opK, hA x (by simp [Op.operands])]
  | indexAddr t x i =>
    have e1 := hA x (by simp [Op.operands])
    have e2 := hA i (by simp [Op.operands])
    have l := same x (by simp [Op.operands])
    simp only [locK0, opK, ← e1, ← e2]
    generalize A x = ax at l
    split
    · split
      · rfl
      · rename_i id g _
        simp only [l id (by simp [AV.idOf])]
      · rfl
      · rfl
      · rfl
    · rfl
  | index t x i => simp only [locK0, opK, hA x (by simp [Op.operands]), hA i (by simp [Op.operands])]
  | extract x i => simp only [locK0, opK, hA x (by simp [Op.operands])]
  | _ => rfl
theorem viewAt_loc {x : AV} {K : Nat → Nat → (t : Ty) → TypeId → Bool → List t.den → Int → Int → Option R} (s : Same h h' x.idOf) : viewAt h x K = viewAt h' x K := by
  cases x with
  | own i g => simp only [viewAt, s i (by simp [AV.idOf])]
  | vw i g z k n => simp only [viewAt, s i (by simp [AV.idOf])]
  | _ => rfl
theorem atMap_loc {m : MInf} {x : AV} {K : Nat → List (Nat × m.K.den × m.E.den) → Nat → Option R} (s : Same h h' x.idOf) : atMap h m x K = atMap h' m x K := by
  cases x with
  | mpv i => simp only [atMap, s i (by simp [AV.idOf])]
  | _ => rfl
theorem asD_loc {j : Inf} {t : Ty} {x : AV} (s : Same h h' (idsOf x.flat)) : asD h j t x = asD h' j t x := by
  have e := closeAll_loc (t := t) s
  unfold asD
  cases isAggD j.desc <;> cases x <;> simp only [AV.flat] at e <;> simp only [e]
theorem ext_local {o : Op} {A A' : Operand → AV} {nid : Nat} {K : OK R} (hA : ∀ x ∈ o.operands.toList, A x = A' x) (s : Same h h' (fpOf o A)) (hf : isExt F o A = true → ∀ j, j < makesN F o → fresh h (nid + j) = fresh h' (nid + j)) (he : isExt F o A = true) :
    isExt F o A' = true ∧ extK T o A h nid K = extK T o A' h' nid K := by
  have same : ∀ x ∈ o.operands.toList, Same h h' (A x).idOf := fun x hx => fp_same s hx
  cases o with
  | convert a d x =>
    have e := hA x (by simp [Op.operands])
    have hmk : F.cv a d = true := he
    have hf0 : fresh h nid = fresh h' nid := hf he 0 (by simp [makesN, hmk])
    refine ⟨he, ?_⟩
    simp only [extK, bytesK, ← e, hf0]
  | slice t x lo hi mx =>
    have e := hA x (by simp [Op.operands])
    have e1 : lo.map A = lo.map A' := by cases lo with | none => rfl | some y => simp [hA y (by simp [Op.operands])]
    have e2 : hi.map A = hi.map A' := by cases hi with | none => rfl | some y => simp [hA y (by simp [Op.operands])]
    have e3 : mx.map A = mx.map A' := by cases mx with | none => rfl | some y => simp [hA y (by simp [Op.operands])]
    refine ⟨by simpa only [isExt, e] using he, ?_⟩
    simp only [extK, viewK, e1, e2, e3, ← e, viewAt_loc (same x (by simp [Op.operands]))]
  | call c =>
    cases hc : c.callee with
    | builtin b =>
      have hargs : c.args.toList.map A = c.args.toList.map A' := List.map_congr_left fun x hx => hA x (by simp [Op.operands, Call.operands, hc, hx])
      have sargs : ∀ x ∈ c.args.toList.map A', Same h h' x.idOf := fun x hx => by
        rw [← hargs] at hx
        obtain ⟨y, hy, rfl⟩ := List.mem_map.1 hx
        exact same y (by simp [Op.operands, Call.operands, hc, hy])
      refine ⟨by simpa only [isExt, hargs] using he, ?_⟩
      simp only [extK, hc]
      rw [hargs]
      generalize c.args.toList.map A' = args at sargs
      unfold extB
      split
      · rename_i t d s ht
        simp only [copyK, viewAt_loc (sargs d (by simp)), srcSl_loc (sargs s (by simp))]
      · rename_i t x ht
        simp only [clearK, viewAt_loc (sargs x (by simp))]
      · rename_i t s x ht
        simp only [appendVK, viewAt_loc (sargs s (by simp)), srcSl_loc (sargs x (by simp))]
      · rename_i t x ht
        simp only [viewAt_loc (sargs x (by simp))]
      · rfl
    | _ => simp [isExt, hc] at he
  | makeMap t r =>
    cases r with
    | none =>
      have hf0 : fresh h nid = fresh h' nid := hf he 0 (by simp [makesN])
      refine ⟨he, ?_⟩
      simp only [extK, mapL, hf0]
    | some r => simp [isExt, isMapL] at he
  | lookup t x ix ok =>
    have e1 := hA x (by simp [Op.operands])
    have e2 := hA ix (by simp [Op.operands])
    have l1 := same x (by simp [Op.operands])
    have l2 : Same h h' (idsOf (A ix).flat) := fun i hi => s i (fp_mem (by simp [Op.operands]) hi)
    refine ⟨he, ?_⟩
    simp only [extK, mapL, ← e1, ← e2, atMap_loc l1, asD_loc l2]
  | mapUpdate t x ix v =>
    have e1 := hA x (by simp [Op.operands])
    have e2 := hA ix (by simp [Op.operands])
    have e3 := hA v (by simp [Op.operands])
    have l1 := same x (by simp [Op.operands])
    have l2 : Same h h' (idsOf (A ix).flat) := fun i hi => s i (fp_mem (by simp [Op.operands]) hi)
    have l3 : Same h h' (idsOf (A v).flat) := fun i hi => s i (fp_mem (by simp [Op.operands]) hi)
    refine ⟨he, ?_⟩
    simp only [extK, mapL, ← e1, ← e2, ← e3, atMap_loc l1, asD_loc l2, asD_loc l3]
  | range t x =>
    have e1 := hA x (by simp [Op.operands])
    have l1 := same x (by simp [Op.operands])
    have hf0 : fresh h nid = fresh h' nid := hf he 0 (by simp [makesN])
    refine ⟨he, ?_⟩
    simp only [extK, mapL, ← e1, atMap_loc l1, hf0]
  | _ => simp [isExt, isMapL] at he
theorem loc_local {o : Op} {A A' : Operand → AV} {nid : Nat} {K : OK R} (hA : ∀ x ∈ o.operands.toList, A x = A' x) (s : Same h h' (fpOf o A)) (hf : ∀ j, j < makesN F o → fresh h (nid + j) = fresh h' (nid + j)) :
    locK T F o A h nid K = locK T F o A' h' nid K := by
  unfold locK
  cases he : isExt F o A with
  | true =>
    obtain ⟨h1, h2⟩ := ext_local (T := T) (K := K) hA s (fun _ => hf) he
    rw [h1, h2]; rfl
  | false =>
    cases he' : isExt F o A' with
    | true =>
      have s' : Same h h (fpOf o A') := fun _ _ => rfl
      obtain ⟨h1, _⟩ := ext_local (T := T) (F := F) (h := h) (h' := h) (nid := nid) (K := K) (fun x hx => (hA x hx).symm) s' (fun _ _ _ => rfl) he'
      rw [he] at h1; cases h1
    | false => exact loc_local0 hA s hf
end
end Go.Proofs.YtibdnfknokkadaaDoor.Ev
