/- What an operation comes to does not hang on what follows it; and hangs on no more than what its operands lead to. -/
import Derived.Test.YtibdnfknokkadaaDoorEvRun
set_option linter.unusedVariables false
set_option linter.unusedSimpArgs false
namespace Go.Proofs.YtibdnfknokkadaaDoor.Ev
open Go Go.RowKit

section
variable {R R' : Type}
theorem p_cond {α β : Type} (b : Bool) (x y : Option α) (k : α → Option β) : optb (bif b then x else y) k = bif b then optb x k else optb y k := by cases b <;> rfl
theorem p_none {α β : Type} (k : α → Option β) : optb none k = none := rfl
theorem p_optb {α β γ : Type} (o : Option α) (f : α → Option β) (k : β → Option γ) : optb (optb o f) k = optb o fun x => optb (f x) k := by cases o <;> rfl
theorem p_partK (i : Inf) (cs : List AV) (k1 : AV → Option R) (k2 : R → Option R') : optb (partK i cs k1) k2 = partK i cs fun v => optb (k1 v) k2 := by
  unfold partK
  cases isAggD i.desc with
  | true => simp only [cond_true, p_cond, p_none]
  | false => cases cs <;> rfl
theorem p_behindK (h : List HE) (p : AV) (k1 : List AV → Option R) (k2 : R → Option R') : optb (behindK h p k1) k2 = behindK h p fun v => optb (k1 v) k2 := by
  unfold behindK; split <;> (try split) <;> simp only [p_cond, p_none, p_optb]
theorem p_pickIdx : ∀ (n q : Nat) (i : Int) (k1 : Nat → Option R) (k2 : R → Option R'), optb (pickIdx n q i k1) k2 = pickIdx n q i fun v => optb (k1 v) k2
  | 0, _, _, _, _ => rfl
  | n + 1, q, i, k1, k2 => by simp only [pickIdx, p_cond, p_pickIdx n]
theorem p_intBin (op : BinOp) (k : IntKind) (a b : Int) (k1 : AV → Option R) (k2 : R → Option R') : optb (intBin op k a b k1) k2 = intBin op k a b fun v => optb (k1 v) k2 := by
  cases op <;> simp only [intBin, p_cond, p_none]
theorem p_strBin (op : BinOp) (a b : ByteArray) (k1 : AV → Option R) (k2 : R → Option R') : optb (strBin op a b k1) k2 = strBin op a b fun v => optb (k1 v) k2 := by
  cases op <;> simp only [strBin, p_cond, p_none]
theorem p_binK (T : Tab) (h : List HE) (op : BinOp) (t : TypeId) (x y : AV) (k1 : AV → Option R) (k2 : R → Option R') : optb (binK T h op t x y k1) k2 = binK T h op t x y fun v => optb (k1 v) k2 := by
  unfold binK; split <;> (try split) <;> simp only [p_cond, p_none, p_intBin, p_strBin]
theorem p_unK (op : UnOp) (x : AV) (k1 : AV → Option R) (k2 : R → Option R') : optb (unK op x k1) k2 = unK op x fun v => optb (k1 v) k2 := by
  unfold unK; split <;> rfl
theorem p_storeK (h : List HE) (p : AV) (vs : List AV) (k1 : OK R) (k2 : R → Option R') : optb (storeK h p vs k1) k2 = storeK h p vs fun v u => optb (k1 v u) k2 := by
  unfold storeK; split <;> (try split) <;> simp only [p_cond, p_none, p_optb]
theorem p_addrAdd (x : AV) (n : Nat) (k1 : AV → Option R) (k2 : R → Option R') : optb (addrAdd x n k1) k2 = addrAdd x n fun v => optb (k1 v) k2 := by
  unfold addrAdd; split <;> rfl
theorem p_fieldAddrK (T : Tab) (s : TypeId) (f : Nat) (x : AV) (k1 : AV → Option R) (k2 : R → Option R') : optb (fieldAddrK T s f x k1) k2 = fieldAddrK T s f x fun v => optb (k1 v) k2 := by
  unfold fieldAddrK; split <;> simp only [p_cond, p_none, p_addrAdd]
theorem p_fieldK (T : Tab) (s : TypeId) (f : Nat) (x : AV) (k1 : AV → Option R) (k2 : R → Option R') : optb (fieldK T s f x k1) k2 = fieldK T s f x fun v => optb (k1 v) k2 := by
  unfold fieldK; split <;> simp only [p_none, p_partK]
theorem p_convertK (T : Tab) (h : List HE) (s d : TypeId) (x : AV) (k1 : AV → Option R) (k2 : R → Option R') : optb (convertK T h s d x k1) k2 = convertK T h s d x fun v => optb (k1 v) k2 := by
  unfold convertK; split <;> (try split) <;> (try split) <;> (try split) <;> rfl
theorem p_lenSl (h : List HE) (x : AV) (k1 : AV → Option R) (k2 : R → Option R') : optb (lenSl h x k1) k2 = lenSl h x fun v => optb (k1 v) k2 := by
  unfold lenSl; split <;> (try split) <;> simp only [p_cond, p_none]
theorem p_lenT (h : List HE) (d : TypeDesc) (x : AV) (k1 : AV → Option R) (k2 : R → Option R') : optb (lenT h d x k1) k2 = lenT h d x fun v => optb (k1 v) k2 := by
  unfold lenT; split <;> (try split) <;> simp only [p_none, p_lenSl]
theorem p_appendK (T : Tab) (h : List HE) (nid : Nat) (t : TypeId) (s x : AV) (k1 : OK R) (k2 : R → Option R') : optb (appendK T h nid t s x k1) k2 = appendK T h nid t s x fun v u => optb (k1 v u) k2 := by
  unfold appendK
  split
  · split
    · split
      · simp only [p_cond, p_none]
      · simp only [p_cond, p_none]
      · split
        · split
          · simp only [p_cond, p_none]
          · rfl
        · rfl
      · rfl
    · rfl
  · rfl
theorem p_builtinK (T : Tab) (h : List HE) (nid : Nat) (b : Builtin) (ats : Array TypeId) (args : List AV) (k1 : OK R) (k2 : R → Option R') : optb (builtinK T h nid b ats args k1) k2 = builtinK T h nid b ats args fun v u => optb (k1 v u) k2 := by
  unfold builtinK
  split
  · split
    · simp only [p_lenT]
    · rfl
  · split
    · simp only [p_cond, p_none, p_appendK]
    · rfl
  · split <;> rfl
  · split <;> rfl
  · rfl
theorem p_sliceK (T : Tab) (h : List HE) (t : TypeId) (x : AV) (lo hi mx : Option AV) (k1 : OK R) (k2 : R → Option R') : optb (sliceK T h t x lo hi mx k1) k2 = sliceK T h t x lo hi mx fun v u => optb (k1 v u) k2 := by
  unfold sliceK
  split
  · split
    · simp only [p_cond, p_none]
    · rfl
  · split
    · split
      · simp only [p_cond, p_none]
      · rfl
    · split
      · split
        · simp only [p_cond, p_none]
        · rfl
      · rfl
    · split
      · split
        · split
          · simp only [p_cond, p_none]
          · rfl
        · rfl
      · rfl
    · rfl
  · rfl
theorem p_opK (T : Tab) (o : Op) (A : Operand → AV) (h : List HE) (nid : Nat) (k1 : OK R) (k2 : R → Option R') : optb (opK T o A h nid k1) k2 = opK T o A h nid fun v u => optb (k1 v u) k2 := by
  cases o with
  | binOp op t x y yt =>
    cases op <;> simp only [opK] <;> (try split) <;> simp only [p_binK]
  | indexAddr t x i =>
    simp only [opK]
    split
    · split
      · split <;> simp only [p_cond, p_none, p_optb]
      · split <;> simp only [p_cond, p_none]
      · split <;> simp only [p_cond, p_none]
      · split <;> simp only [p_cond, p_none, p_pickIdx, p_addrAdd]
      · rfl
    · rfl
  | index t x i =>
    simp only [opK]
    split
    · split <;> simp only [p_cond, p_none]
    · split
      · split <;> simp only [p_none, p_pickIdx, p_partK]
      · rfl
    · rfl
  | build t ps => simp only [opK]; split; (simp only [p_cond, p_none]; congr 1; split; split; rfl; rfl; rfl); rfl
  | buildSlice t n ps => simp only [opK]; split; (simp only [p_cond, p_none]; congr 1; split; rfl; rfl); (split; (simp only [p_cond, p_none]; congr 1; split; rfl; rfl); rfl)
  | nilCheck x => simp only [opK]; split <;> (try split) <;> rfl
  | pick c a b => simp only [opK]; split <;> simp only [p_cond, p_none]
  | extract x i => simp only [opK]; split <;> (try split) <;> rfl
  | _ => simp only [opK] <;> (try split) <;> first | rfl | simp only [p_cond, p_none, p_behindK, p_partK, p_storeK, p_unK, p_convertK, p_sliceK, p_fieldAddrK, p_fieldK]
theorem p_pureK (p : PF) (fr : List (Option TypeId)) (args : List AV) (h : List HE) (nid : Nat) (k1 : OK R) (k2 : R → Option R') : optb (pureK p fr args h nid k1) k2 = pureK p fr args h nid fun v u => optb (k1 v u) k2 := by
  unfold pureK
  rw [p_cond, p_none]
  congr 1
  split
  · rw [p_optb]
    congr 1
    funext r
    split <;> rfl
  · rfl
theorem p_closK (F : PT) (g : FuncId) (args : List AV) (h : List HE) (k1 : OK R) (k2 : R → Option R') : optb (closK F g args h k1) k2 = closK F g args h fun v u => optb (k1 v u) k2 := by
  unfold closK
  split
  · split
    · rw [p_cond, p_none]
      congr 1
      split
      · rw [p_optb]
      · rfl
    · rfl
  · rfl
theorem p_sortK (F : PT) (g : FuncId) (args : List AV) (h : List HE) (k1 : OK R) (k2 : R → Option R') : optb (sortK F g args h k1) k2 = sortK F g args h fun v u => optb (k1 v u) k2 := by
  unfold sortK
  split
  · split
    · split
      · rfl
      · split
        · rw [p_cond, p_none]
          congr 1
          split <;> first | rfl | (rw [p_cond]; rfl)
        · rfl
      · rfl
    · rfl
  · rfl
theorem p_locK0 (T : Tab) (F : PT) (o : Op) (A : Operand → AV) (h : List HE) (nid : Nat) (k1 : OK R) (k2 : R → Option R') : optb (locK0 T F o A h nid k1) k2 = locK0 T F o A h nid fun v u => optb (k1 v u) k2 := by
  unfold locK0
  split
  · split
    · rw [p_builtinK]
    · split
      · split
        · rw [p_pureK]
        · rw [p_cond, p_closK, p_sortK]
      · rfl
    · rfl
  · rw [p_opK]
theorem p_viewAt (h : List HE) (x : AV) (k1 : Nat → Nat → (t : Ty) → TypeId → Bool → List t.den → Int → Int → Option R) (k2 : R → Option R') : optb (viewAt h x k1) k2 = viewAt h x fun i g t e nl l k n => optb (k1 i g t e nl l k n) k2 := by
  unfold viewAt
  split
  · split
    · simp only [p_cond, p_none]
    · rfl
  · split
    · simp only [p_cond, p_none]
    · rfl
  · rfl
theorem p_atMap (h : List HE) (m : MInf) (x : AV) (k1 : Nat → List (Nat × m.K.den × m.E.den) → Nat → Option R) (k2 : R → Option R') : optb (atMap h m x k1) k2 = atMap h m x fun i D c => optb (k1 i D c) k2 := by
  unfold atMap
  split
  · split
    · simp only [p_cond, p_none]
      congr 1
      split <;> rfl
    · rfl
  · rfl
theorem p_mapL (T : Tab) (o : Op) (A : Operand → AV) (h : List HE) (nid : Nat) (k1 : OK R) (k2 : R → Option R') : optb (mapL T o A h nid k1) k2 = mapL T o A h nid fun v u => optb (k1 v u) k2 := by
  unfold mapL
  split
  · split
    · simp only [p_cond, p_none]
    · rfl
  · split
    · rw [p_atMap]
      congr 1
      funext i D c
      split <;> rfl
    · rfl
  · split
    · rw [p_atMap]
      congr 1
      funext i D c
      split <;> rfl
    · rfl
  · split
    · rw [p_atMap]
      congr 1
      funext i D c
      simp only [p_cond, p_none]
    · rfl
  · rfl
theorem p_extK (T : Tab) (o : Op) (A : Operand → AV) (h : List HE) (nid : Nat) (k1 : OK R) (k2 : R → Option R') : optb (extK T o A h nid k1) k2 = extK T o A h nid fun v u => optb (k1 v u) k2 := by
  unfold extK
  split
  · unfold bytesK
    split
    · split
      · split
        · split
          · simp only [p_cond, p_none]
          · rfl
        · rfl
      · rfl
    · rfl
  · unfold viewK
    split
    · rw [p_viewAt]
      congr 1
      funext i g t e nl l k n
      split
      · simp only [p_cond, p_none]
      · simp only [p_cond, p_none]
      · rfl
    · rfl
  · split
    · unfold extB
      split
      · unfold copyK
        split
        · rw [p_viewAt]
          congr 1
          funext i g t e nl l k n
          split
          · simp only [p_cond, p_none]
          · rfl
        · rfl
      · unfold clearK
        split
        · rw [p_viewAt]
          congr 1
          funext i g t e nl l k n
          split <;> rfl
        · rfl
      · split
        · rw [p_cond, p_none]
          congr 1
          unfold appendVK
          split
          · rw [p_viewAt]
            congr 1
            funext i g t e nl l k n
            split
            · simp only [p_cond, p_none]
            · rfl
          · rfl
        · rfl
      · split
        · rw [p_viewAt]
        · rfl
      · rfl
    · rfl
  · exact p_mapL _ _ _ _ _ _ _
theorem p_locK (T : Tab) (F : PT) (o : Op) (A : Operand → AV) (h : List HE) (nid : Nat) (k1 : OK R) (k2 : R → Option R') : optb (locK T F o A h nid k1) k2 = locK T F o A h nid fun v u => optb (k1 v u) k2 := by
  unfold locK
  rw [p_cond, p_extK, p_locK0]
/-- An operation's value and what it changes. -/
theorem loc_split {T : Tab} {F : PT} {o : Op} {A : Operand → AV} {h : List HE} {nid : Nat} {K : OK R} {r : R} (hk : locK T F o A h nid K = some r) : ∃ v u, locK T F o A h nid (fun v u => some (v, u)) = some (v, u) ∧ K v u = some r := by
  have e := p_locK T F o A h nid (fun v u => some (v, u)) (fun p => K p.1 p.2)
  simp only [optb] at e
  rw [← e] at hk
  obtain ⟨⟨v, u⟩, h1, h2⟩ := optb_some hk
  exact ⟨v, u, h1, h2⟩
end
end Go.Proofs.YtibdnfknokkadaaDoor.Ev
