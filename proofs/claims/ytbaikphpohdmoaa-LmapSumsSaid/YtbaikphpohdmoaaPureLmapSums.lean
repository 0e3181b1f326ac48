/- LmapSums: the pure statement, over numbers and lists alone; no conditions. -/
import Derived.Test.YtbaikphpohdmoaaStatLmapSums
set_option linter.unusedVariables false
set_option linter.unusedSimpArgs false
namespace Go.Proofs.Ytbaikphpohdmoaa.Pure
open Go Go.RowKit Go.Proofs.Ytbaikphpohdmoaa.Ev
/-! ### whole numbers -/
theorem wf_i64 {n : Int} (h : Ty.wf (.int .i64) n) : -9223372036854775808 ≤ n ∧ n ≤ 9223372036854775807 := by
  have h : (Lit.int .i64 n).wf = true := h
  simpa [Lit.wf, IntKind.min, IntKind.max, IntKind.signed, IntKind.bits] using h
theorem w64 {n : Int} (h0 : -9223372036854775808 ≤ n) (h1 : n ≤ 9223372036854775807) : wrap64 n = n := by unfold wrap64; omega
theorem tdiv_pos {a b : Int} (ha : 0 ≤ a) : Int.tdiv a b = a / b := Int.tdiv_eq_ediv_of_nonneg ha
theorem tmod_pos {a b : Int} (ha : 0 ≤ a) : Int.tmod a b = a % b := Int.tmod_eq_emod_of_nonneg ha
theorem bytesOf_append (a b : List Int) : bytesOf a ++ bytesOf b = bytesOf (a ++ b) := by
  apply ByteArray.ext
  simp [bytesOf]
theorem cond_t {α : Type} {c : Bool} {a b : α} (h : c = true) : (bif c then a else b) = a := by rw [h]; rfl
theorem cond_f {α : Type} {c : Bool} {a b : α} (h : c = false) : (bif c then a else b) = b := by rw [h]; rfl
theorem optb_some {α β : Type} (a : α) (f : α → Option β) : optb (some a) f = f a := rfl
theorem and_mask (x : Int) (i : Nat) (hi : i ≤ 62) : bitop .and .i64 x (2 ^ i - 1) = x % 2 ^ i := by
  have h2 : (2 : Nat) ^ i ≤ 2 ^ 62 := Nat.pow_le_pow_right (by decide) hi
  have h62 : (2 : Nat) ^ 62 = 4611686018427387904 := by decide
  have h64 : (2 : Nat) ^ 64 = 18446744073709551616 := by decide
  have hp : 0 < 2 ^ i := Nat.two_pow_pos i
  have hc : ((2 : Int) ^ i - 1) = ((2 ^ i - 1 : Nat) : Int) := by rw [Int.natCast_sub hp]; simp
  have hd : (2 ^ i : Nat) ∣ 2 ^ 64 := Nat.pow_dvd_pow 2 (by omega)
  have hb : IntKind.i64.bits = 64 := rfl
  have key : ((BitVec.ofInt 64 x &&& BitVec.ofInt 64 (2 ^ i - 1)).toNat : Int) = x % 2 ^ i := by
    rw [hc, BitVec.ofInt_natCast, BitVec.toNat_and, BitVec.toNat_ofNat, Nat.mod_eq_of_lt (show 2 ^ i - 1 < 2 ^ 64 by omega), Nat.and_two_pow_sub_one_eq_mod, BitVec.toNat_ofInt,
      Int.natCast_emod, Int.toNat_of_nonneg (Int.emod_nonneg _ (by decide)), Int.emod_emod_of_dvd]
    · simp
    · exact Int.natCast_dvd_natCast.2 hd
  have hlt : ((BitVec.ofInt 64 x &&& BitVec.ofInt 64 (2 ^ i - 1)).toNat : Int) < 4611686018427387904 := by
    rw [key]
    have : x % ((2 ^ i : Nat) : Int) < ((2 ^ i : Nat) : Int) := Int.emod_lt_of_pos _ (by omega)
    have e : ((2 ^ i : Nat) : Int) = (2 : Int) ^ i := by simp
    rw [e] at this
    have : (2 : Int) ^ i ≤ 4611686018427387904 := by rw [← e]; omega
    omega
  show IntKind.i64.wrap ((BitVec.ofInt 64 x &&& BitVec.ofInt 64 (2 ^ i - 1)).toNat : Int) = x % 2 ^ i
  rw [IntKind.wrap_i64]
  omega
theorem speaks19 (d : Nat) : corbellaw19_speaks (d + 300) = some true := by kernel_rfl
/-! ### maps as lists of entries -/
theorem eqb_iff : ∀ (t : Ty) (x y : t.den), t.noSl = true → (t.eqb x y = true ↔ x = y) := eqb_eq
theorem mget_put {α : Type} {K : Ty} (hn : K.noSl = true) (k k' : K.den) (v : α) (c : Nat) : ∀ D : List (Nat × K.den × α), mget K (mput K k v c D) k' = bif K.eqb k' k then some v else mget K D k'
  | [] => by simp only [mput, mget]
  | d :: r => by
    simp only [mput]
    cases h : K.eqb k d.2.1 with
    | true =>
      rw [cond_true]
      simp only [mget]
      have e := (eqb_iff K _ _ hn).1 h
      rw [← e]
      cases K.eqb k' k <;> rfl
    | false =>
      rw [cond_false]
      simp only [mget]
      cases h2 : K.eqb k' d.2.1 with
      | true =>
        have e := (eqb_iff K _ _ hn).1 h2
        have : K.eqb k' k = false := by
          cases h3 : K.eqb k' k with
          | false => rfl
          | true =>
            have e3 := (eqb_iff K _ _ hn).1 h3
            rw [← e3, e] at h
            rw [(eqb_iff K _ _ hn).2 rfl] at h; cases h
        rw [this]; rfl
      | false => rw [cond_false]; exact mget_put hn k k' v c r
theorem mget_puti {α : Type} (k k' : Int) (v : α) (c : Nat) (D : List (Nat × Int × α)) : mget (.int .i64) (mput (.int .i64) k v c D) k' = if k' = k then some v else mget (.int .i64) D k' := by
  rw [mget_put (K := .int .i64) rfl]
  show (bif decide (k' = k) then _ else _) = _
  by_cases h : k' = k
  · rw [decide_eq_true h, if_pos h]; rfl
  · rw [decide_eq_false h, if_neg h]; rfl
/-! ### lmap's Add: which entry a block has -/
abbrev Vn : Type := (Int × (Int × Int)) × (Int × Bool)
abbrev Dn : Type := List (Nat × Int × Vn)
abbrev gt (D : Dn) (b : Int) : Option Vn := mget (.int .i64) D b
def zn : Vn := Ty.zero (.pair (.pair (.int .i64) (.pair (.int .i64) (.int .i64))) (.pair (.int .i64) .bool))
def addE (zone at_ seq : Int) : List (Int × Bool) → Int → Dn × Nat → Dn × Nat
  | [], _, s => s
  | e :: r, i, s => addE zone at_ seq r (i + 1) (bif mhas (.int .i64) s.1 e.1 && decide (seq < (mval (.int .i64) zn s.1 e.1).2.1) then s
      else (mput (.int .i64) e.1 ((zone, (at_, i)), (seq, e.2)) s.2 s.1, mclk (.int .i64) s.1 e.1 s.2))
def ownE (zone at_ seq : Int) : List (Int × Bool) → Int → Int → Option Vn
  | [], _, _ => none
  | e :: r, i, b => match ownE zone at_ seq r (i + 1) b with
    | some v => some v
    | none => if b = e.1 then some ((zone, (at_, i)), (seq, e.2)) else none
theorem ownE_cons (zone at_ seq : Int) (e : Int × Bool) (r : List (Int × Bool)) (i b : Int) : ownE zone at_ seq (e :: r) i b = match ownE zone at_ seq r (i + 1) b with
    | some v => some v
    | none => if b = e.1 then some ((zone, (at_, i)), (seq, e.2)) else none := rfl
theorem ownE_seq {zone at_ seq : Int} : ∀ (es : List (Int × Bool)) (i b : Int) (v : Vn), ownE zone at_ seq es i b = some v → v.2.1 = seq
  | [], _, _, _, h => by simp [ownE] at h
  | e :: r, i, b, v, h => by
    unfold ownE at h
    split at h
    · rename_i w hw; cases h; exact ownE_seq r _ _ _ hw
    · split at h
      · cases h; rfl
      · cases h
/-- What a block has behind a group: the group's entry, if there is one and nothing newer was there. -/
def joinE (o n : Option Vn) (seq : Int) : Option Vn := match n with
  | none => o
  | some v => match o with
    | some w => if seq < w.2.1 then some w else some v
    | none => some v
theorem addE_get {zone at_ seq : Int} : ∀ (es : List (Int × Bool)) (i : Int) (s : Dn × Nat) (b : Int), gt (addE zone at_ seq es i s).1 b = joinE (gt s.1 b) (ownE zone at_ seq es i b) seq
  | [], _, _, _ => rfl
  | e :: r, i, s, b => by
    unfold addE
    rw [addE_get r]
    -- what this entry does
    have h1 : ∀ b, gt ((bif mhas (.int .i64) s.1 e.1 && decide (seq < (mval (.int .i64) zn s.1 e.1).2.1) then s else (mput (.int .i64) e.1 ((zone, (at_, i)), (seq, e.2)) s.2 s.1, mclk (.int .i64) s.1 e.1 s.2)) : Dn × Nat).1 b =
        joinE (gt s.1 b) (if b = e.1 then some ((zone, (at_, i)), (seq, e.2)) else none) seq := fun b => by
      unfold mhas mval
      by_cases hb : b = e.1
      · subst hb
        rw [if_pos rfl]
        unfold joinE
        cases hg : gt s.1 e.1 with
        | none =>
          have hg' : mget (.int .i64) s.1 e.1 = none := hg
          rw [hg']
          simp only [Option.isSome_none, Bool.false_and, cond_false]
          show mget (.int .i64) (mput (.int .i64) e.1 _ s.2 s.1) e.1 = _
          rw [mget_puti, if_pos rfl]
        | some w =>
          have hg' : mget (.int .i64) s.1 e.1 = some w := hg
          rw [hg']
          simp only [Option.isSome_some, Bool.true_and, Option.getD_some]
          by_cases hs : seq < w.2.1
          · rw [decide_eq_true hs, cond_true, if_pos hs]; exact hg'
          · rw [decide_eq_false hs, cond_false, if_neg hs]
            show mget (.int .i64) (mput (.int .i64) e.1 _ s.2 s.1) e.1 = _
            rw [mget_puti, if_pos rfl]
      · rw [if_neg hb]
        show _ = gt s.1 b
        cases (mget (.int .i64) s.1 e.1).isSome && decide (seq < ((mget (.int .i64) s.1 e.1).getD zn).2.1) with
        | true => rfl
        | false =>
          show mget (.int .i64) (mput (.int .i64) e.1 _ s.2 s.1) b = _
          rw [mget_puti, if_neg hb]
    rw [h1 b, ownE_cons]
    cases ho : ownE zone at_ seq r (i + 1) b with
    | none => rfl
    | some v =>
      have hv := ownE_seq r _ _ _ ho
      by_cases hb : b = e.1
      · rw [if_pos hb]
        unfold joinE
        cases hg : gt s.1 b with
        | none => simp only; rw [if_neg (Int.lt_irrefl _)]
        | some w =>
          simp only
          by_cases hs : seq < w.2.1
          · rw [if_pos hs]; try simp only [if_pos hs]
          · rw [if_neg hs]; simp only [if_neg hs, if_neg (Int.lt_irrefl _)]
      · rw [if_neg hb]; rfl
/-! ### a map's keys, and when they were born -/
def keysD (D : Dn) : List Int := D.map (·.2.1)
def bornD (D : Dn) : List Nat := D.map (·.1)
def ins (acc : List Int) (b : Int) : List Int := if b ∈ acc then acc else acc ++ [b]
def firsts (l : List Int) : List Int := l.foldl ins []
theorem eqbi (a b : Int) : Ty.eqb (.int .i64) a b = decide (a = b) := rfl
theorem put_keys (k : Int) (v : Vn) (c : Nat) : ∀ D : Dn, keysD (mput (.int .i64) k v c D) = ins (keysD D) k
  | [] => by unfold ins; rw [if_neg (by simp [keysD])]; rfl
  | d :: r => by
    simp only [mput]
    rw [eqbi]
    by_cases h : k = d.2.1
    · rw [decide_eq_true h, cond_true]
      unfold ins
      rw [if_pos (by rw [h]; exact List.mem_cons_self ..)]
      show k :: keysD r = d.2.1 :: keysD r
      rw [h]
    · rw [decide_eq_false h, cond_false]
      have ih := put_keys k v c r
      show d.2.1 :: keysD (mput (.int .i64) k v c r) = ins (d.2.1 :: keysD r) k
      rw [ih]
      unfold ins
      by_cases hm : k ∈ keysD r
      · rw [if_pos hm, if_pos (List.mem_cons_of_mem _ hm)]
      · rw [if_neg hm, if_neg (by rw [List.mem_cons]; exact fun e => e.elim h hm)]; rfl
theorem put_born (k : Int) (v : Vn) (c : Nat) : ∀ D : Dn, bornD (mput (.int .i64) k v c D) = if k ∈ keysD D then bornD D else bornD D ++ [c]
  | [] => by rw [if_neg (by simp [keysD])]; rfl
  | d :: r => by
    simp only [mput]
    rw [eqbi]
    by_cases h : k = d.2.1
    · rw [decide_eq_true h, cond_true, if_pos (by rw [h]; exact List.mem_cons_self ..)]; rfl
    · rw [decide_eq_false h, cond_false]
      have ih := put_born k v c r
      show d.1 :: bornD (mput (.int .i64) k v c r) = _
      rw [ih]
      by_cases hm : k ∈ keysD r
      · rw [if_pos hm, if_pos (show k ∈ keysD (d :: r) from List.mem_cons_of_mem _ hm)]; rfl
      · rw [if_neg hm, if_neg (show ¬ k ∈ keysD (d :: r) by show ¬ k ∈ d.2.1 :: keysD r; rw [List.mem_cons]; exact fun e => e.elim h hm)]; rfl
theorem mem_put (k : Int) (v : Vn) (c : Nat) : ∀ (D : Dn) (x : Nat × Int × Vn), x ∈ mput (.int .i64) k v c D → x ∈ D ∨ x.2 = (k, v)
  | [], x, h => .inr (by rw [List.mem_singleton.1 h])
  | d :: r, x, h => by
    simp only [mput] at h
    rw [eqbi] at h
    by_cases e : k = d.2.1
    · rw [decide_eq_true e, cond_true] at h
      rcases List.mem_cons.1 h with h | h
      · exact .inr (by rw [h])
      · exact .inl (List.mem_cons_of_mem _ h)
    · rw [decide_eq_false e, cond_false] at h
      rcases List.mem_cons.1 h with h | h
      · exact .inl (by rw [h]; exact List.mem_cons_self ..)
      · rcases mem_put k v c r x h with h | h
        · exact .inl (List.mem_cons_of_mem _ h)
        · exact .inr h
theorem has_iff (k : Int) : ∀ D : Dn, mhas (.int .i64) D k = decide (k ∈ keysD D)
  | [] => by rw [decide_eq_false (by simp [keysD])]; rfl
  | d :: r => by
    have ih := has_iff k r
    unfold mhas at ih ⊢
    simp only [mget]
    rw [eqbi]
    by_cases e : k = d.2.1
    · rw [decide_eq_true e, cond_true, decide_eq_true (show k ∈ keysD (d :: r) by rw [e]; exact List.mem_cons_self ..)]; rfl
    · rw [decide_eq_false e, cond_false, ih]
      apply decide_eq_decide.2
      show _ ↔ k ∈ d.2.1 :: keysD r
      rw [List.mem_cons]
      exact ⟨.inr, fun h => h.resolve_left e⟩
theorem get_mem : ∀ {D : Dn}, (keysD D).Nodup → ∀ {d : Nat × Int × Vn}, d ∈ D → mget (.int .i64) D d.2.1 = some d.2.2
  | [], _, _, h => by cases h
  | x :: r, hn, d, h => by
    have hn' : x.2.1 ∉ keysD r ∧ (keysD r).Nodup := List.nodup_cons.1 hn
    simp only [mget]
    rw [eqbi]
    rcases List.mem_cons.1 h with h | h
    · rw [h, decide_eq_true rfl]; rfl
    · have : d.2.1 ≠ x.2.1 := fun e => hn'.1 (by rw [← e]; exact List.mem_map_of_mem h)
      rw [decide_eq_false this, cond_false]
      exact get_mem hn'.2 h
theorem ins_nodup {l : List Int} (h : l.Nodup) (b : Int) : (ins l b).Nodup := by
  unfold ins
  by_cases e : b ∈ l
  · rw [if_pos e]; exact h
  · rw [if_neg e]
    refine List.nodup_append.2 ⟨h, by simp, ?_⟩
    intro a ha c hc
    rw [List.mem_singleton.1 hc]
    rintro rfl; exact e ha
theorem mem_ins {l : List Int} {b x : Int} : x ∈ ins l b ↔ x ∈ l ∨ x = b := by
  unfold ins
  by_cases e : b ∈ l
  · rw [if_pos e]; exact ⟨.inl, fun h => h.elim id (fun h => by rw [h]; exact e)⟩
  · rw [if_neg e, List.mem_append, List.mem_singleton]
theorem mem_foldl_ins : ∀ (l acc : List Int) (x : Int), x ∈ l.foldl ins acc ↔ x ∈ acc ∨ x ∈ l
  | [], acc, x => by simp
  | b :: l, acc, x => by
    rw [List.foldl_cons, mem_foldl_ins l, mem_ins, List.mem_cons, or_assoc]
theorem firsts_snoc (l : List Int) (b : Int) : firsts (l ++ [b]) = ins (firsts l) b := by unfold firsts; rw [List.foldl_append]; rfl
theorem firsts_app (l m : List Int) : firsts (l ++ m) = m.foldl ins (firsts l) := by unfold firsts; rw [List.foldl_append]
theorem firsts_mem (l : List Int) (x : Int) : x ∈ firsts l ↔ x ∈ l := by unfold firsts; rw [mem_foldl_ins]; simp
theorem ins_len (l : List Int) (b : Int) : (ins l b).length = if b ∈ l then l.length else l.length + 1 := by
  unfold ins
  by_cases e : b ∈ l
  · rw [if_pos e, if_pos e]
  · rw [if_neg e, if_neg e, List.length_append]; rfl
theorem foldl_ins_len : ∀ (l acc : List Int), (l.foldl ins acc).length ≤ acc.length + l.length
  | [], acc => by simp
  | b :: l, acc => by
    rw [List.foldl_cons, List.length_cons]
    have h1 := foldl_ins_len l (ins acc b)
    have h2 := ins_len acc b
    split at h2 <;> omega
structure DOK (D : Dn) (c : Nat) : Prop where
  keys : (keysD D).Nodup
  born : (bornD D).Nodup
  lt : ∀ b ∈ bornD D, b < c
  zone : ∀ d ∈ D, 0 ≤ d.2.2.1.1 ∧ d.2.2.1.1 < 8
theorem DOK.nil : DOK [] 0 := ⟨List.nodup_nil, List.nodup_nil, (fun _ h => by cases h), (fun _ h => by cases h)⟩
theorem DOK.put {D : Dn} {c : Nat} (h : DOK D c) (k : Int) {v : Vn} (hz : 0 ≤ v.1.1 ∧ v.1.1 < 8) : DOK (mput (.int .i64) k v c D) (mclk (.int .i64) D k c) := by
  unfold mclk
  rw [has_iff]
  refine ⟨by rw [put_keys]; exact ins_nodup h.keys k, ?_, ?_, ?_⟩
  · rw [put_born]
    by_cases e : k ∈ keysD D
    · rw [if_pos e]; exact h.born
    · rw [if_neg e]
      refine List.nodup_append.2 ⟨h.born, by simp, ?_⟩
      intro a ha b hb
      rw [List.mem_singleton.1 hb]
      have := h.lt a ha
      omega
  · intro b hb
    rw [put_born] at hb
    by_cases e : k ∈ keysD D
    · rw [if_pos e] at hb; rw [decide_eq_true e]; exact h.lt b hb
    · rw [if_neg e] at hb
      rw [decide_eq_false e]
      show b < c + 1
      rcases List.mem_append.1 hb with hb | hb
      · have := h.lt b hb; omega
      · rw [List.mem_singleton.1 hb]; omega
  · intro d hd
    rcases mem_put k v c D d hd with hd | hd
    · exact h.zone d hd
    · rw [show d.2.2 = v by rw [hd]]; exact hz
theorem addE_ok {zone at_ seq : Int} (hz : 0 ≤ zone ∧ zone < 8) : ∀ (es : List (Int × Bool)) (i : Int) (D : Dn) (c : Nat), DOK D c →
    DOK (addE zone at_ seq es i (D, c)).1 (addE zone at_ seq es i (D, c)).2 ∧ keysD (addE zone at_ seq es i (D, c)).1 = (es.map (·.1)).foldl ins (keysD D)
  | [], i, D, c, h => ⟨h, rfl⟩
  | e :: es, i, D, c, h => by
    unfold addE
    rw [has_iff, List.map_cons, List.foldl_cons]
    by_cases hc : (decide (e.1 ∈ keysD D) && decide (seq < (mval (.int .i64) zn D e.1).2.1)) = true
    · rw [hc, cond_true]
      have hm : e.1 ∈ keysD D := by
        rw [Bool.and_eq_true] at hc
        exact of_decide_eq_true hc.1
      have := addE_ok (at_ := at_) (seq := seq) hz es (i + 1) D c h
      rw [show ins (keysD D) e.1 = keysD D by unfold ins; rw [if_pos hm]]
      exact this
    · rw [Bool.eq_false_iff.2 hc, cond_false]
      have := addE_ok (at_ := at_) (seq := seq) hz es (i + 1) _ _ (h.put e.1 (v := ((zone, (at_, i)), (seq, e.2))) hz)
      rw [put_keys] at this
      exact this
/-! ### a range over a map: in any order -/
theorem nbeq_f {a b : Nat} (h : a ≠ b) : Nat.beq a b = false := by
  cases hb : Nat.beq a b with
  | false => rfl
  | true => exact absurd (Nat.eq_of_beq_eq_true hb) h
theorem nbeq_comm (a b : Nat) : Nat.beq a b = Nat.beq b a := by
  by_cases h : a = b
  · rw [h]
  · rw [nbeq_f h, nbeq_f (Ne.symm h)]
theorem perm_out {L : Dn} (hn : (bornD L).Nodup) : ∀ {d : Nat × Int × Vn}, d ∈ L → L.Perm (d :: L.filter fun x => !Nat.beq x.1 d.1) := by
  induction L with
  | nil => intro d h; cases h
  | cons x r ih =>
    intro d h
    have hn' : x.1 ∉ bornD r ∧ (bornD r).Nodup := List.nodup_cons.1 hn
    rcases List.mem_cons.1 h with e | h'
    · subst e
      rw [List.filter_cons_of_neg (by simp)]
      have : r.filter (fun x => !Nat.beq x.1 d.1) = r := List.filter_eq_self.2 fun y hy => by
        have : y.1 ≠ d.1 := fun e => hn'.1 (by rw [← e]; exact List.mem_map_of_mem hy)
        rw [nbeq_f this]; rfl
      rw [this]
    · have hne : x.1 ≠ d.1 := fun e => hn'.1 (by rw [e]; exact List.mem_map_of_mem h')
      rw [List.filter_cons_of_pos (by rw [nbeq_f hne]; rfl)]
      exact ((ih hn'.2 h').cons x).trans (.swap _ _ _)
theorem memN_app (x : Nat) : ∀ (l : List Nat) (y : Nat), memN (l ++ [y]) x = (memN l x || Nat.beq x y) := by
  intro l y
  induction l with
  | nil =>
    show (bif Nat.beq y x then true else false) = (false || Nat.beq x y)
    rw [nbeq_comm y x]; cases Nat.beq x y <;> rfl
  | cons a l ih =>
    show (bif Nat.beq a x then true else memN (l ++ [y]) x) = ((bif Nat.beq a x then true else memN l x) || Nat.beq x y)
    rw [ih]; cases Nat.beq a x <;> rfl
theorem left_snoc (D : Dn) (s : List Nat) (b : Nat) : leftD D (s ++ [b]) = (leftD D s).filter fun x => !Nat.beq x.1 b := by
  unfold leftD
  rw [List.filter_filter]
  apply List.filter_congr
  intro x _
  rw [memN_app, Bool.not_or, Bool.and_comm]
theorem left_step {D : Dn} (hn : (bornD D).Nodup) {s : List Nat} {d : Nat × Int × Vn} (hd : d ∈ leftD D s) : (leftD D s).Perm (d :: leftD D (s ++ [d.1])) := by
  rw [left_snoc]
  refine perm_out ?_ hd
  unfold leftD bornD at *
  exact List.Nodup.sublist (List.Sublist.map _ (List.filter_sublist)) hn
theorem last_snoc : ∀ (s : List Nat) (b : Nat), lastSeen (s ++ [b]) = some b
  | [], b => rfl
  | [a], b => rfl
  | a :: c :: s, b => last_snoc (c :: s) b
theorem find_born : ∀ {D : Dn}, (bornD D).Nodup → ∀ {d : Nat × Int × Vn}, d ∈ D → D.find? (fun x => Nat.beq x.1 d.1) = some d
  | [], _, _, h => by cases h
  | x :: r, hn, d, h => by
    have hn' : x.1 ∉ bornD r ∧ (bornD r).Nodup := List.nodup_cons.1 hn
    rcases List.mem_cons.1 h with e | h'
    · subst e; rw [List.find?_cons_of_pos (by simp)]
    · have hne : x.1 ≠ d.1 := fun e => hn'.1 (by rw [e]; exact List.mem_map_of_mem h')
      rw [List.find?_cons_of_neg (by rw [nbeq_f hne]; simp)]
      exact find_born hn'.2 h'
theorem entry_snoc {D : Dn} (hn : (bornD D).Nodup) {s : List Nat} {d : Nat × Int × Vn} (hd : d ∈ D) : entryD D (s ++ [d.1]) = some d.2 := by
  unfold entryD
  rw [last_snoc]
  simp only
  rw [find_born hn hd]; rfl
theorem left_mem {D : Dn} {s : List Nat} {d : Nat × Int × Vn} (h : d ∈ leftD D s) : d ∈ D := (List.mem_filter.1 h).1
theorem left_nil (D : Dn) : leftD D [] = D := List.filter_eq_self.2 fun _ _ => rfl
/-! ### Counts and Live: whatever the order of the range -/
def cz (z : Int) (L : Dn) : Nat := L.countP fun d => decide (d.2.2.1.1 = z)
theorem cz_le (z : Int) (L : Dn) : cz z L ≤ L.length := List.countP_le_length
theorem cz_step {D : Dn} (hn : (bornD D).Nodup) {s : List Nat} {d : Nat × Int × Vn} (hd : d ∈ leftD D s) (z : Int) : cz z (leftD D s) = (if d.2.2.1.1 = z then 1 else 0) + cz z (leftD D (s ++ [d.1])) := by
  unfold cz
  rw [(left_step hn hd).countP_eq, List.countP_cons]
  by_cases e : d.2.2.1.1 = z
  · rw [if_pos e, decide_eq_true e, if_pos rfl, Nat.add_comm]
  · rw [if_neg e, decide_eq_false e, if_neg (by simp), Nat.add_comm]
theorem len_step {D : Dn} (hn : (bornD D).Nodup) {s : List Nat} {d : Nat × Int × Vn} (hd : d ∈ leftD D s) : (leftD D s).length = (leftD D (s ++ [d.1])).length + 1 := (left_step hn hd).length_eq
theorem guard_ok (c : Nat) : (Nat.beq c c && Nat.ble c c) = true := by
  rw [Bool.and_eq_true]
  exact ⟨Nat.beq_refl c, by rw [Nat.ble_eq]; exact Nat.le_refl c⟩
theorem empty_iff {α : Type} (l : List α) : l.isEmpty = decide (l.length = 0) := by
  cases l with
  | nil => rfl
  | cons => rw [decide_eq_false (by simp)]; rfl
theorem counts_all {R : Type} (e0 : List Int → Option R) (k : Nat) {D : Dn} {c : Nat} (h : DOK D c) (hl : D.length ≤ 1000) (r : R)
    (he : ∀ out : List Int, out.length = 8 → (∀ z : Nat, z < 8 → out[z]? = some ((cz z D : Nat) : Int)) → e0 out = some r) :
    ∀ (n j : Nat) (seen : List Nat) (out : List Int), (leftD D seen).length = n → n < j → out.length = 8 → (∀ z : Nat, z < 8 → ∃ a : Nat, out[z]? = some (a : Int) ∧ a + cz z (leftD D seen) = cz z D) →
    corbellaw19_LmapSums_i19_3_l0 e0 k 8 D c c j out seen c = some r := by
  intro n
  induction n with
  | zero =>
    intro j seen out hn hj ho hz
    obtain ⟨j, rfl⟩ : ∃ u, j = u + 1 := ⟨j - 1, by omega⟩
    rw [corbellaw19_LmapSums_i19_3_l0]; unfold corbellaw19_LmapSums_i19_3_l0s
    rw [guard_ok, cond_true, empty_iff, decide_eq_true hn, cond_true]
    refine he out ho fun z hz' => ?_
    obtain ⟨a, h1, h2⟩ := hz z hz'
    have := cz_le z (leftD D seen)
    rw [h1, show a = cz z D by omega]
  | succ n ih =>
    intro j seen out hn hj ho hz
    obtain ⟨j, rfl⟩ : ∃ u, j = u + 1 := ⟨j - 1, by omega⟩
    rw [corbellaw19_LmapSums_i19_3_l0]; unfold corbellaw19_LmapSums_i19_3_l0s
    rw [guard_ok, cond_true, empty_iff, decide_eq_false (show ¬ (leftD D seen).length = 0 by omega), cond_false]
    refine demon_intro (by intro e; rw [e] at hn; simp at hn) fun d hd => ?_
    have hdz := h.zone d (left_mem hd)
    rw [Nat.beq_refl c]
    show optb (entryD D (seen ++ [d.1])) _ = _
    rw [entry_snoc h.born (left_mem hd), optb_some, decide_eq_true hdz.1, cond_true, decide_eq_true hdz.2]
    obtain ⟨z, hzz⟩ : ∃ z : Nat, d.2.2.1.1 = (z : Int) := ⟨d.2.2.1.1.toNat, by omega⟩
    obtain ⟨a, h1, h2⟩ := hz z (by omega)
    have hcz := cz_le z D
    have hlen := len_step h.born hd
    unfold corbellaw19_LmapSums_i19_3_j1
    rw [cond_true, hzz, lenI_eq, ho, decide_eq_true (show (0 : Int) ≤ z by omega), decide_eq_true (show (z : Int) < ((8 : Nat) : Int) by omega), Bool.and_self, cond_true, show (z : Int).toNat = z from rfl, h1, optb_some, cond_true, optb_some, w64 (by omega) (by omega)]
    refine ih j (seen ++ [d.1]) (List.set out z ((a : Int) + 1)) (by omega) (by omega) (by rw [List.length_set]; exact ho) fun y hy => ?_
    have hst := cz_step h.born hd y
    by_cases e : y = z
    · subst e
      refine ⟨a + 1, by rw [List.getElem?_set_self (by omega)]; rfl, ?_⟩
      rw [if_pos hzz] at hst; omega
    · obtain ⟨a', h1', h2'⟩ := hz y hy
      refine ⟨a', by rw [List.getElem?_set_ne (fun e' => e e'.symm)]; exact h1', ?_⟩
      rw [if_neg (by omega)] at hst; omega
abbrev Wh : Type := Int × (Int × Int)
abbrev Lv : Type := Int × (Bool × (Int × (Int × Int)))
abbrev KW : Ty := .pair (.int .i64) (.pair (.int .i64) (.int .i64))
abbrev Bp : Type := List (Nat × Wh × Lv)
def liveOf (d : Nat × Int × Vn) : Lv := (d.2.1, (d.2.2.2.2, (d.2.2.1.1, (d.2.2.1.2.1, d.2.2.1.2.2))))
def InL (D : Dn) (z : Int) (bp : Bp) (places : List Wh) : Prop := ∀ p ∈ places, ∃ d ∈ D, d.2.2.1.1 = z ∧ mget KW bp p = some (liveOf d)
theorem live_all {R : Type} (e0 : Bp → Nat → List Nat → Nat → List Wh → Option R) (k : Nat) {D : Dn} {c : Nat} (h : DOK D c) (hl : D.length ≤ 1000) (z : Int) (r : R)
    (he : ∀ bp hb seen places, places.length = cz z D → InL D z bp places → e0 bp hb seen c places = some r) :
    ∀ (n j : Nat) (seen : List Nat) (bp : Bp) (hb : Nat) (places : List Wh), (leftD D seen).length = n → n < j → places.length + cz z (leftD D seen) = cz z D → InL D z bp places →
    corbellaw19_LmapSums_i17_4_l0 e0 k z D c c j bp hb seen c places = some r := by
  intro n
  induction n with
  | zero =>
    intro j seen bp hb places hn hj ho hz
    obtain ⟨j, rfl⟩ : ∃ u, j = u + 1 := ⟨j - 1, by omega⟩
    rw [corbellaw19_LmapSums_i17_4_l0]; unfold corbellaw19_LmapSums_i17_4_l0s
    rw [guard_ok, cond_true, empty_iff, decide_eq_true hn, cond_true]
    have := cz_le z (leftD D seen)
    exact he bp hb seen places (by omega) hz
  | succ n ih =>
    intro j seen bp hb places hn hj ho hz
    obtain ⟨j, rfl⟩ : ∃ u, j = u + 1 := ⟨j - 1, by omega⟩
    rw [corbellaw19_LmapSums_i17_4_l0]; unfold corbellaw19_LmapSums_i17_4_l0s
    rw [guard_ok, cond_true, empty_iff, decide_eq_false (show ¬ (leftD D seen).length = 0 by omega), cond_false]
    refine demon_intro (by intro e; rw [e] at hn; simp at hn) fun d hd => ?_
    rw [Nat.beq_refl c]
    show optb (entryD D (seen ++ [d.1])) _ = _
    rw [entry_snoc h.born (left_mem hd), optb_some]
    have hst := cz_step h.born hd z
    have hlen := len_step h.born hd
    have hcz := cz_le z D
    by_cases e : d.2.2.1.1 = z
    · rw [if_pos e] at hst
      rw [decide_eq_true e, cond_true, decide_eq_true (by rw [List.length_singleton]; omega), cond_true]
      refine ih j (seen ++ [d.1]) _ _ _ (by omega) (by omega) (by rw [List.length_append, List.length_singleton]; omega) fun p hp => ?_
      have hput := mget_put (K := KW) rfl (d.2.2.1.1, (d.2.2.1.2.1, d.2.2.1.2.2)) p (liveOf d) hb bp
      cases hq : KW.eqb p (d.2.2.1.1, (d.2.2.1.2.1, d.2.2.1.2.2)) with
      | true =>
        rw [hq, cond_true] at hput
        exact ⟨d, left_mem hd, e, hput⟩
      | false =>
        rw [hq, cond_false] at hput
        rcases List.mem_append.1 hp with hp | hp
        · obtain ⟨d', g1, g2, g3⟩ := hz p hp
          exact ⟨d', g1, g2, hput.trans g3⟩
        · rw [List.mem_singleton.1 hp, (eqb_iff KW _ _ rfl).2 rfl] at hq; cases hq
    · rw [if_neg e] at hst
      rw [decide_eq_false e, cond_false]
      exact ih j (seen ++ [d.1]) bp hb places (by omega) (by omega) (by omega) hz
abbrev z0 : Lv := Ty.zero (.pair (.int .i64) (.pair .bool (.pair (.int .i64) (.pair (.int .i64) (.int .i64)))))
theorem drop_cons' {α : Type} {L : List α} {i : Nat} {p : α} {l : List α} (h : L.drop i = p :: l) : L[i]? = some p ∧ i < L.length ∧ L.drop (i + 1) = l := by
  have h1 : i < L.length := by
    rcases Nat.lt_or_ge i L.length with h' | h'
    · exact h'
    · rw [List.drop_eq_nil_of_le h'] at h; cases h
  rw [List.drop_eq_getElem_cons h1] at h
  obtain ⟨h2, h3⟩ := List.cons.inj h
  exact ⟨by rw [List.getElem?_eq_getElem h1, h2], h1, h3⟩
theorem outs {R : Type} (e0 : List Lv → Option R) (k : Nat) (bp : Bp) (P : List Wh) (hP : P.length ≤ 1000) : ∀ (rest : List Wh) (j i : Nat) (out : List Lv), P.drop i = rest → rest.length < j → i ≤ P.length → out.length = i →
    corbellaw19_LmapSums_i17_4_l1 e0 k (lenI P) bp P j i out = e0 (out ++ rest.map (mval KW z0 bp))
  | [], j, i, out, h, hj, hi, ho => by
    obtain ⟨j, rfl⟩ : ∃ u, j = u + 1 := ⟨j - 1, by omega⟩
    have := congrArg List.length h
    rw [List.length_drop, List.length_nil] at this
    rw [corbellaw19_LmapSums_i17_4_l1]; unfold corbellaw19_LmapSums_i17_4_l1s
    rw [lenI_eq, decide_eq_false (by omega), cond_false, List.map_nil, List.append_nil]
  | p :: rest, j, i, out, h, hj, hi, ho => by
    obtain ⟨j, rfl⟩ : ∃ u, j = u + 1 := ⟨j - 1, by omega⟩
    obtain ⟨h1, h2, h3⟩ := drop_cons' h
    rw [List.length_cons] at hj
    rw [corbellaw19_LmapSums_i17_4_l1]; unfold corbellaw19_LmapSums_i17_4_l1s
    rw [lenI_eq, decide_eq_true (show (i : Int) < P.length by omega), cond_true, decide_eq_true (show (0 : Int) ≤ i by omega), Bool.and_self, cond_true, show (i : Int).toNat = i from rfl, h1, optb_some]
    try dsimp only
    rw [decide_eq_true (by rw [List.length_singleton]; omega), cond_true, w64 (by omega) (by omega), show (i : Int) + 1 = ((i + 1 : Nat) : Int) by omega, ← lenI_eq P]
    rw [outs e0 k bp P hP rest j (i + 1) _ h3 (by omega) (by omega) (by rw [List.length_append, ho]; rfl), List.append_assoc]
    rfl
theorem sort_perm (l : List Wh) : (sort_lmap_Map_Live_1 l).Perm l := by
  have h := (Sort.pdq_sorts (ltOf cmp3) cmp3_swo l.toArray 0 l.length (Lib.bitLen l.length) true true (Nat.zero_le _) (by simp) (Or.inl rfl)).1
  have h2 := h.2.2
  have h1 := h.1
  unfold sort_lmap_Map_Live_1
  have e1 : ∀ (a : Array Wh), a.size = l.length → a.extract 0 l.length = a := fun a ha => by rw [← ha]; simp
  rw [e1 _ (by rw [h1]; simp), e1 _ (by simp)] at h2
  simpa using h2
theorem checked {R : Type} (e0 : Bool → Option R) (e1 : Option R) (k : Nat) {D : Dn} {c : Nat} (h : DOK D c) (z : Int) (live : List Lv) (hl : live.length ≤ 1000) (hall : ∀ x ∈ live, ∃ d ∈ D, d.2.2.1.1 = z ∧ x = liveOf d) : ∀ (n j i : Nat), live.length - i = n → n < j → i ≤ live.length →
    corbellaw19_LmapSums_l1 e0 e1 k z D live j i = e1 := by
  intro n
  induction n with
  | zero =>
    intro j i hn hj hi
    obtain ⟨j, rfl⟩ : ∃ u, j = u + 1 := ⟨j - 1, by omega⟩
    rw [corbellaw19_LmapSums_l1]; unfold corbellaw19_LmapSums_l1s
    rw [lenI_eq, decide_eq_false (by omega), cond_false]
  | succ n ih =>
    intro j i hn hj hi
    obtain ⟨j, rfl⟩ : ∃ u, j = u + 1 := ⟨j - 1, by omega⟩
    have hi' : i < live.length := by omega
    obtain ⟨d, g1, g2, g3⟩ := hall live[i] (List.getElem_mem hi')
    have hm := get_mem h.keys g1
    have hx : live[i]? = some (liveOf d) := by rw [List.getElem?_eq_getElem hi', g3]
    rw [corbellaw19_LmapSums_l1]; unfold corbellaw19_LmapSums_l1s
    rw [lenI_eq, decide_eq_true (show (i : Int) < live.length by omega), cond_true, decide_eq_true (show (0 : Int) ≤ i by omega), Bool.and_self, cond_true, show (i : Int).toNat = i from rfl, hx, optb_some]
    have e1' : mval (.int .i64) (Ty.zero (.pair (.pair (.int .i64) (.pair (.int .i64) (.int .i64))) (.pair (.int .i64) .bool))) D (liveOf d).1 = d.2.2 := by
      unfold mval
      rw [show (liveOf d).1 = d.2.1 from rfl, hm]; rfl
    have e2' : mhas (.int .i64) D (liveOf d).1 = true := by
      unfold mhas
      rw [show (liveOf d).1 = d.2.1 from rfl, hm]; rfl
    dsimp only
    rw [e1', e2']
    unfold corbellaw19_LmapSums_j2
    rw [Bool.not_true, cond_false, lenI_eq, decide_eq_true (show (i : Int) < live.length by omega), decide_eq_true (show (0 : Int) ≤ i by omega), Bool.and_self, cond_true, show (i : Int).toNat = i from rfl, hx, optb_some]
    have e3 : (decide (d.2.2.1.1 = (liveOf d).2.2.1) && (decide (d.2.2.1.2.1 = (liveOf d).2.2.2.1) && (decide (d.2.2.1.2.2 = (liveOf d).2.2.2.2) && true))) = true := by
      rw [decide_eq_true (show d.2.2.1.1 = (liveOf d).2.2.1 from rfl), decide_eq_true (show d.2.2.1.2.1 = (liveOf d).2.2.2.1 from rfl), decide_eq_true (show d.2.2.1.2.2 = (liveOf d).2.2.2.2 from rfl)]; rfl
    have e4 : (d.2.2.2.2 == (liveOf d).2.1) = true := by show (d.2.2.2.2 == d.2.2.2.2) = true; simp
    rw [e3, Bool.not_true, cond_false, cond_true, optb_some, e4, Bool.not_true, cond_false, decide_eq_true g2, Bool.not_true]
    unfold corbellaw19_LmapSums_j3
    rw [cond_false]
    unfold corbellaw19_LmapSums_k1
    rw [w64 (by omega) (by omega)]
    exact ih j (i + 1) (by omega) (by omega) (by omega)
/-! ### the groups added, one after the other -/
abbrev Gp : Type := Int × (Int × (Int × (Bool × List Int)))
def gAt (L : List Gp) (q : Int) : Gp := L.getD q.toNat (0, (0, (0, (true, []))))
theorem gAt_some {L : List Gp} {q : Int} (h0 : 0 ≤ q) (h1 : q < L.length) : L[q.toNat]? = some (gAt L q) := by
  have h : q.toNat < L.length := by omega
  unfold gAt
  rw [List.getD_eq_getElem?_getD, List.getElem?_eq_getElem h]; rfl
theorem added {R : Type} (e0 : Dn → Nat → Option R) (k : Nat) (zone at_ seq : Int) : ∀ (r p : List (Int × Bool)) (j : Nat) (D : Dn) (c : Nat), p.length + r.length ≤ 1000 → r.length < j →
    corbellaw19_LmapSums_i20_5_l0 e0 k zone at_ (lenI (p ++ r)) (p ++ r) seq j p.length D c = e0 (addE zone at_ seq r p.length (D, c)).1 (addE zone at_ seq r p.length (D, c)).2
  | [], p, j, D, c, hl, hj => by
    obtain ⟨j, rfl⟩ : ∃ u, j = u + 1 := ⟨j - 1, by omega⟩
    rw [corbellaw19_LmapSums_i20_5_l0]; unfold corbellaw19_LmapSums_i20_5_l0s
    rw [lenI_eq, List.append_nil, decide_eq_false (Int.lt_irrefl _), cond_false]; rfl
  | x :: r, p, j, D, c, hl, hj => by
    rw [List.length_cons] at hj hl
    obtain ⟨j, rfl⟩ : ∃ u, j = u + 1 := ⟨j - 1, by omega⟩
    have hx : (p ++ x :: r)[(p.length : Int).toNat]? = some x := by rw [Int.toNat_natCast, List.getElem?_append_right (Nat.le_refl _), Nat.sub_self]; rfl
    have hlen : (p.length : Int) < ((p ++ x :: r).length : Int) := by rw [List.length_append, List.length_cons]; omega
    rw [corbellaw19_LmapSums_i20_5_l0]; unfold corbellaw19_LmapSums_i20_5_l0s
    rw [lenI_eq, decide_eq_true hlen, decide_eq_true (show (0 : Int) ≤ p.length by omega), hx]
    simp only [Bool.and_self, cond_true, optb_some]
    unfold corbellaw19_LmapSums_i20_5_j1 corbellaw19_LmapSums_i20_5_j2
    rw [w64 (n := (p.length : Int) + 1) (by omega) (by omega)]
    have ih := fun D c => added e0 k zone at_ seq r (p ++ [x]) j D c (by rw [List.length_append, List.length_singleton]; omega) (by omega)
    rw [List.append_assoc, List.singleton_append, List.length_append, List.length_singleton, lenI_eq, show ((p.length + 1 : Nat) : Int) = (p.length : Int) + 1 by omega] at ih
    dsimp only
    rw [ih, ih, addE]
    show (bif mhas (.int .i64) D x.1 then bif decide (seq < (mval (.int .i64) zn D x.1).2.1) then _ else _ else _) = _
    cases mhas (.int .i64) D x.1 with
    | false => rfl
    | true =>
      cases decide (seq < (mval (.int .i64) zn D x.1).2.1) with
      | false => rfl
      | true => rfl
abbrev Al : Type := Int × (Int × (Int × (Int × (Int × Bool))))
def bt (b : Int) : Int × Bool := if b < 0 then (wrap64 ((0 : Int) - (wrap64 (b + (1 : Int)))), true) else (b, false)
def ents (g : Gp) : List (Int × Bool) := (g.2.2.2.2.take 10).map bt
def blk (a : List Al) : List Int := a.map (·.2.2.2.2.1)
theorem blk_len (a : List Al) : (blk a).length = a.length := List.length_map ..
theorem and7 (x : Int) : 0 ≤ bitop .and .i64 x 7 ∧ bitop .and .i64 x 7 < 8 := by
  have : bitop .and .i64 x 7 = x % 8 := and_mask x 3 (by decide)
  omega
theorem gather {R : Type} (e0 : List Al → List (Int × Bool) → Option R) (k : Nat) (L : List Gp) (i : Int) (h0 : 0 ≤ i) (h1 : i < L.length) (s : Int) : ∀ (n kk j : Nat) (all : List Al), kk ≤ 10 → 10 - kk = n → n < j → all.length ≤ 10000 + kk →
    ∃ all' : List Al, blk all' = blk all ++ ((ents (gAt L i)).drop kk).map (·.1) ∧ corbellaw19_LmapSums_i15_0_l1 e0 k L i s j kk all ((ents (gAt L i)).take kk) = e0 all' (ents (gAt L i)) := by
  have hlen : (ents (gAt L i)).length = min 10 (gAt L i).2.2.2.2.length := by unfold ents; rw [List.length_map, List.length_take]
  have stop : ∀ kk : Nat, kk ≤ 10 → (gAt L i).2.2.2.2.length ≤ kk ∨ kk = 10 → (ents (gAt L i)).take kk = ents (gAt L i) ∧ (ents (gAt L i)).drop kk = [] := fun kk h2 h3 => ⟨List.take_of_length_le (by rw [hlen]; omega), List.drop_eq_nil_of_le (by rw [hlen]; omega)⟩
  intro n
  induction n with
  | zero =>
    intro kk j all hk hn hj ha
    obtain ⟨j, rfl⟩ : ∃ u, j = u + 1 := ⟨j - 1, by omega⟩
    obtain rfl : kk = 10 := by omega
    obtain ⟨st1, st2⟩ := stop 10 (by omega) (.inr rfl)
    refine ⟨all, by rw [st2, List.map_nil, List.append_nil], ?_⟩
    rw [corbellaw19_LmapSums_i15_0_l1]; unfold corbellaw19_LmapSums_i15_0_l1s
    rw [decide_eq_true h0, cond_true, gAt_some h0 h1, optb_some, decide_eq_false (show ¬ (((10 : Nat) : Int) < 10) by omega), cond_false]
    rw [st1]
    cases decide (((10 : Nat) : Int) < lenI (gAt L i).2.2.2.2) <;> rfl
  | succ n ih =>
    intro kk j all hk hn hj ha
    obtain ⟨j, rfl⟩ : ∃ u, j = u + 1 := ⟨j - 1, by omega⟩
    by_cases hb : kk < (gAt L i).2.2.2.2.length
    · have hk' : kk < (ents (gAt L i)).length := by rw [hlen]; omega
      have hat : (ents (gAt L i))[kk] = bt (gAt L i).2.2.2.2[kk] := by unfold ents; simp
      obtain ⟨b, hbb⟩ : ∃ b, (gAt L i).2.2.2.2[kk] = b := ⟨_, rfl⟩
      rw [hbb] at hat
      have hsn : (ents (gAt L i)).take kk ++ [((bt b).1, (bt b).2)] = (ents (gAt L i)).take (kk + 1) := by
        rw [List.take_add_one, List.getElem?_eq_getElem hk', hat]; rfl
      obtain ⟨all', g1, g2⟩ := ih (kk + 1) j (all ++ [((bitop .and .i64 (gAt L i).1 7), (i, ((kk : Int), (s, ((bt b).1, (bt b).2)))))]) (by omega) (by omega) (by omega) (by rw [List.length_append, List.length_singleton]; omega)
      refine ⟨all', ?_, ?_⟩
      · rw [g1, List.drop_eq_getElem_cons hk', hat]
        unfold blk
        rw [List.map_append, List.append_assoc]; rfl
      · rw [← g2]
        rw [corbellaw19_LmapSums_i15_0_l1]; unfold corbellaw19_LmapSums_i15_0_l1s
        rw [decide_eq_true h0, cond_true, gAt_some h0 h1, optb_some, lenI_eq, decide_eq_true (show (kk : Int) < ((gAt L i).2.2.2.2.length : Int) by omega), cond_true, decide_eq_true (show (kk : Int) < 10 by omega), cond_true, cond_true, optb_some, decide_eq_true (show (0 : Int) ≤ kk by omega), cond_true,
          show (kk : Int).toNat = kk from rfl, List.getElem?_eq_getElem hb, optb_some, hbb]
        have hj3 : ∀ (b : Int) (t : Bool) (e : List Al → List (Int × Bool) → Bool → List (Int × Bool) → Bool → List Al → Option R), corbellaw19_LmapSums_i15_0_j3 e k L i kk b t all s ((ents (gAt L i)).take kk) = e (all ++ [((bitop .and .i64 (gAt L i).1 7), (i, ((kk : Int), (s, (b, t)))))]) ((ents (gAt L i)).take kk ++ [(b, t)]) false [(b, t)] false [((bitop .and .i64 (gAt L i).1 7), (i, ((kk : Int), (s, (b, t)))))] := by
          intro b t e
          unfold corbellaw19_LmapSums_i15_0_j3
          rw [decide_eq_true (by rw [List.length_take, List.length_singleton]; omega), cond_true]
          try dsimp only
          unfold corbellaw19_LmapSums_i15_0_j4
          rw [decide_eq_true h0, cond_true, gAt_some h0 h1, optb_some, decide_eq_true (by rw [List.length_singleton]; omega), cond_true]
        unfold corbellaw19_LmapSums_i15_0_j2
        by_cases hneg : b < 0
        · rw [decide_eq_true hneg, cond_true]
          have e := hj3 (wrap64 ((0 : Int) - (wrap64 (b + (1 : Int))))) true (fun all_18282 g_18285 hN_18286 h_18287 hN_18288 h_18289 => (fun all_18316 g_18319 hN_18320 h_18321 hN_18322 h_18323 => corbellaw19_LmapSums_i15_0_j5 (fun k_18345 => corbellaw19_LmapSums_i15_0_l1 e0 k L i s j k_18345 all_18316 g_18319) k kk) all_18282 g_18285 hN_18286 h_18287 hN_18288 h_18289)
          refine e.trans ?_
          unfold corbellaw19_LmapSums_i15_0_j5
          have hbt : bt b = (wrap64 ((0 : Int) - (wrap64 (b + (1 : Int)))), true) := if_pos hneg
          rw [hbt] at hsn ⊢
          dsimp only at hsn ⊢
          rw [w64 (n := (kk : Int) + 1) (by omega) (by omega), hsn]; rfl
        · rw [decide_eq_false hneg, cond_false]
          have e := hj3 b false (fun all_18282 g_18285 hN_18286 h_18287 hN_18288 h_18289 => (fun all_18316 g_18319 hN_18320 h_18321 hN_18322 h_18323 => corbellaw19_LmapSums_i15_0_j5 (fun k_18345 => corbellaw19_LmapSums_i15_0_l1 e0 k L i s j k_18345 all_18316 g_18319) k kk) all_18282 g_18285 hN_18286 h_18287 hN_18288 h_18289)
          refine e.trans ?_
          unfold corbellaw19_LmapSums_i15_0_j5
          have hbt : bt b = (b, false) := if_neg hneg
          rw [hbt] at hsn ⊢
          dsimp only at hsn ⊢
          rw [w64 (n := (kk : Int) + 1) (by omega) (by omega), hsn]; rfl
    · obtain ⟨st1, st2⟩ := stop kk hk (.inl (by omega))
      refine ⟨all, by rw [st2, List.map_nil, List.append_nil], ?_⟩
      rw [corbellaw19_LmapSums_i15_0_l1]; unfold corbellaw19_LmapSums_i15_0_l1s
      rw [decide_eq_true h0, cond_true, gAt_some h0 h1, optb_some, lenI_eq, decide_eq_false (by omega), cond_false, st1]
theorem made {R : Type} (e0 : Int → Dn → Nat → Int → List Al → Option R) (k : Nat) (hk : 200 ≤ k) (L : List Gp) (r : R)
    (he : ∀ seq D c m all, DOK D c → keysD D = firsts (blk all) → all.length ≤ 600 → e0 seq D c m all = some r) :
    ∀ (n j i : Nat) (seq : Int) (D : Dn) (c : Nat) (m : Int) (all : List Al), 60 - i = n → n < j → i ≤ 60 → DOK D c → keysD D = firsts (blk all) → all.length ≤ 10 * i →
    corbellaw19_LmapSums_i15_0_l0 e0 k L j seq i D c m all = some r := by
  intro n
  induction n with
  | zero =>
    intro j i seq D c m all hn hj hi hD hK hA
    obtain ⟨j, rfl⟩ : ∃ u, j = u + 1 := ⟨j - 1, by omega⟩
    rw [corbellaw19_LmapSums_i15_0_l0]; unfold corbellaw19_LmapSums_i15_0_l0s
    rw [decide_eq_false (show ¬ (i : Int) < 60 by omega), cond_false, Bool.cond_self]
    exact he seq D c m all hD hK (by omega)
  | succ n ih =>
    intro j i seq D c m all hn hj hi hD hK hA
    obtain ⟨j, rfl⟩ : ∃ u, j = u + 1 := ⟨j - 1, by omega⟩
    rw [corbellaw19_LmapSums_i15_0_l0]; unfold corbellaw19_LmapSums_i15_0_l0s
    by_cases hil : i < L.length
    · have hs := gAt_some (L := L) (q := (i : Int)) (by omega) (by omega)
      rw [lenI_eq, decide_eq_true (show (i : Int) < L.length by omega), cond_true, decide_eq_true (show (i : Int) < 60 by omega), cond_true, decide_eq_true (show (0 : Int) ≤ i by omega), cond_true, hs, optb_some]
      try dsimp only
      generalize bitop .and .i64 (gAt L i).2.2.1 1099511627775 = s
      obtain ⟨all', g1, g2⟩ := gather (fun all_18366 g_18369 =>
          bif true then
            optb (some (gAt L i)) fun x_18370 =>
            corbellaw19_LmapSums_i20_5_l0 (fun ha_18484 hb_18485 =>
              corbellaw19_LmapSums_i15_0_l0 e0 k L j (bif (decide (s > seq)) then s else seq) (wrap64 ((i : Int) + (1 : Int))) ha_18484 hb_18485 (bif (decide (s > m)) then s else m) all_18366) k (bitop .and .i64 x_18370.1 (7 : Int)) i (lenI g_18369) g_18369 s k (0 : Int) D c
          else none) k L i (by omega) (by omega) s 10 0 k all (by omega) (by omega) (by omega) (by omega)
      refine Eq.trans g2 ?_
      show corbellaw19_LmapSums_i20_5_l0 (fun ha_18484 hb_18485 =>
              corbellaw19_LmapSums_i15_0_l0 e0 k L j (bif (decide (s > seq)) then s else seq) (wrap64 ((i : Int) + (1 : Int))) ha_18484 hb_18485 (bif (decide (s > m)) then s else m) all') k (bitop .and .i64 (gAt L i).1 (7 : Int)) i (lenI (ents (gAt L i))) (ents (gAt L i)) s k (0 : Int) D c = _
      have hel : (ents (gAt L i)).length ≤ 10 := by unfold ents; rw [List.length_map, List.length_take]; omega
      have had := added (fun ha_18484 hb_18485 =>
              corbellaw19_LmapSums_i15_0_l0 e0 k L j (bif (decide (s > seq)) then s else seq) (wrap64 ((i : Int) + (1 : Int))) ha_18484 hb_18485 (bif (decide (s > m)) then s else m) all') k (bitop .and .i64 (gAt L i).1 (7 : Int)) i s (ents (gAt L i)) [] k D c (by rw [List.length_nil]; omega) (by omega)
      refine Eq.trans had ?_
      have hok := addE_ok (at_ := (i : Int)) (seq := s) (and7 (gAt L i).1) (ents (gAt L i)) 0 D c hD
      have hbl : (blk all').length = (blk all).length + (ents (gAt L i)).length := by rw [g1, List.length_append, List.length_map, List.drop_zero]
      rw [blk_len, blk_len] at hbl
      rw [w64 (by omega) (by omega)]
      exact ih j (i + 1) _ _ _ _ all' (by omega) (by omega) (by omega) hok.1 (by rw [List.drop_zero] at g1; rw [g1, firsts_app, ← hK]; exact hok.2) (by omega)
    · rw [lenI_eq, decide_eq_false (show ¬ (i : Int) < L.length by omega), cond_false]
      exact he seq D c m all hD hK (by omega)
def below (D : Dn) (z : Nat) : Nat := D.countP fun d => decide (d.2.2.1.1 < (z : Int))
theorem below_zero {D : Dn} (h : ∀ d ∈ D, 0 ≤ d.2.2.1.1 ∧ d.2.2.1.1 < 8) : below D 0 = 0 := by
  unfold below
  rw [List.countP_eq_zero]
  intro d hd e
  have := h d hd
  have := of_decide_eq_true e
  omega
theorem below_all {D : Dn} (h : ∀ d ∈ D, 0 ≤ d.2.2.1.1 ∧ d.2.2.1.1 < 8) : below D 8 = D.length := by
  unfold below
  rw [List.countP_eq_length]
  intro d hd
  have := h d hd
  exact decide_eq_true (by omega)
theorem below_succ (z : Nat) : ∀ D : Dn, below D (z + 1) = below D z + cz (z : Int) D
  | [] => rfl
  | d :: D => by
    have ih := below_succ z D
    unfold below cz at *
    rw [List.countP_cons, List.countP_cons, List.countP_cons, ih]
    by_cases h1 : d.2.2.1.1 < (z : Int)
    · rw [decide_eq_true (show d.2.2.1.1 < ((z + 1 : Nat) : Int) by omega), decide_eq_true h1, decide_eq_false (show ¬ d.2.2.1.1 = (z : Int) by omega)]
      simp only [if_true, Bool.false_eq_true, if_false]; omega
    · by_cases h2 : d.2.2.1.1 = (z : Int)
      · rw [decide_eq_true (show d.2.2.1.1 < ((z + 1 : Nat) : Int) by omega), decide_eq_false h1, decide_eq_true h2]
        simp only [if_true, Bool.false_eq_true, if_false]; omega
      · rw [decide_eq_false (show ¬ d.2.2.1.1 < ((z + 1 : Nat) : Int) by omega), decide_eq_false h1, decide_eq_false h2]
        simp only [Bool.false_eq_true, if_false]; omega
theorem zones_all {R : Type} (e0 : Bool → Int → Option R) (e1 : Int → Option R) (k : Nat) (hk : 1500 ≤ k) {D : Dn} {c : Nat} (h : DOK D c) (hl : D.length ≤ 1000) (cs : List Int) (h8 : cs.length = 8) (hcs : ∀ z : Nat, z < 8 → cs[z]? = some ((cz z D : Nat) : Int)) (r : R) (he : e1 ((D.length : Nat) : Int) = some r) :
    ∀ (n j z : Nat), 8 - z = n → n < j → z ≤ 8 → corbellaw19_LmapSums_l0 e0 e1 k D c cs j ((below D z : Nat) : Int) z = some r := by
  intro n
  induction n with
  | zero =>
    intro j z hn hj hz
    obtain ⟨j, rfl⟩ : ∃ u, j = u + 1 := ⟨j - 1, by omega⟩
    obtain rfl : z = 8 := by omega
    rw [corbellaw19_LmapSums_l0]; unfold corbellaw19_LmapSums_l0s
    rw [lenI_eq, h8, decide_eq_false (by omega), cond_false, below_all h.zone]
    exact he
  | succ n ih =>
    intro j z hn hj hz
    obtain ⟨j, rfl⟩ : ∃ u, j = u + 1 := ⟨j - 1, by omega⟩
    rw [corbellaw19_LmapSums_l0]; unfold corbellaw19_LmapSums_l0s
    rw [lenI_eq, h8, decide_eq_true (show (z : Int) < ((8 : Nat) : Int) by omega), cond_true]
    have hcz := cz_le z D
    refine live_all _ k h hl z r (fun bp hb seen places hp hin => ?_) D.length k [] [] 0 [] (by rw [left_nil]) (by omega) (by rw [left_nil, List.length_nil]; omega) (fun p hp => by cases hp)
    have hperm := sort_perm places
    have hpl := hperm.length_eq
    rw [decide_eq_true (show places.length ≤ 1099511627776 by omega), cond_true]
    refine Eq.trans (outs _ k bp (sort_lmap_Map_Live_1 places) (by omega) (sort_lmap_Map_Live_1 places) k 0 [] (List.drop_zero) (by omega) (by omega) rfl) ?_
    have hcz' := hcs z (by omega)
    rw [List.nil_append, decide_eq_true (show (0 : Int) ≤ z by omega), Bool.and_self, cond_true, show (z : Int).toNat = z from rfl, hcz', optb_some, lenI_eq, List.length_map, hpl, hp, decide_eq_true rfl, Bool.not_true, cond_false]
    refine Eq.trans (checked _ _ k h z ((sort_lmap_Map_Live_1 places).map (mval KW z0 bp)) (by rw [List.length_map]; omega) ?_ ((sort_lmap_Map_Live_1 places).map (mval KW z0 bp)).length k 0 (by omega) (by rw [List.length_map]; omega) (by omega)) ?_
    · intro x hx
      obtain ⟨p, hp1, hp2⟩ := List.mem_map.1 hx
      obtain ⟨d, g1, g2, g3⟩ := hin p (hperm.mem_iff.1 hp1)
      refine ⟨d, g1, g2, ?_⟩
      rw [← hp2]
      unfold mval
      rw [g3]; rfl
    · rw [cond_true, optb_some]
      have hb8 : below D z + cz z D ≤ 1000 := by
        rw [← below_succ]
        exact Nat.le_trans List.countP_le_length hl
      rw [w64 (by omega) (by omega), w64 (by omega) (by omega)]
      have := ih j (z + 1) (by omega) (by omega) (by omega)
      rw [below_succ, show ((below D z + cz z D : Nat) : Int) = (below D z : Int) + (cz z D : Int) by omega, show ((z + 1 : Nat) : Int) = (z : Int) + 1 by omega] at this
      exact this
theorem blk_at {all : List Al} {i : Nat} {b : Int} (h : (blk all)[i]? = some b) : ∃ x : Al, all[i]? = some x ∧ x.2.2.2.2.1 = b := by
  unfold blk at h
  rw [List.getElem?_map] at h
  cases hx : all[i]? with
  | none => rw [hx] at h; cases h
  | some x => rw [hx] at h; exact ⟨x, rfl, Option.some.inj h⟩
theorem first_val {R : Type} (e0 : Bool → Option R) (k : Nat) (all : List Al) (hl : all.length ≤ 1000) (i : Nat) (b : Int) (hb : (blk all)[i]? = some b) : ∀ (rest : List Int) (j kk : Nat) (f : Bool), ((blk all).take i).drop kk = rest → rest.length < j → kk ≤ i →
    corbellaw19_LmapSums_l5 e0 k i all j f kk = e0 (f && !decide (b ∈ rest))
  | [], j, kk, f, h, hj, hk => by
    obtain ⟨j, rfl⟩ : ∃ u, j = u + 1 := ⟨j - 1, by omega⟩
    have hi : i < (blk all).length := (List.getElem?_eq_some_iff.1 hb).1
    have := congrArg List.length h
    rw [List.length_drop, List.length_take, List.length_nil] at this
    rw [corbellaw19_LmapSums_l5]; unfold corbellaw19_LmapSums_l5s
    rw [decide_eq_false (by omega), cond_false, decide_eq_false (by simp), Bool.not_false, Bool.and_true]
  | x :: rest, j, kk, f, h, hj, hk => by
    obtain ⟨j, rfl⟩ : ∃ u, j = u + 1 := ⟨j - 1, by omega⟩
    rw [List.length_cons] at hj
    obtain ⟨h1, h2, h3⟩ := drop_cons' h
    have hi : i < (blk all).length := (List.getElem?_eq_some_iff.1 hb).1
    rw [List.length_take] at h2
    rw [List.getElem?_take_of_lt (by omega)] at h1
    obtain ⟨y, hy1, hy2⟩ := blk_at h1
    obtain ⟨w, hw1, hw2⟩ := blk_at hb
    rw [blk_len] at hi h2
    rw [corbellaw19_LmapSums_l5]; unfold corbellaw19_LmapSums_l5s
    rw [decide_eq_true (show (kk : Int) < i by omega), cond_true]
    have ihf := fun f => first_val e0 k all hl i b hb rest j (kk + 1) f h3 (by omega) (by omega)
    cases f with
    | false =>
      rw [cond_false]
      unfold corbellaw19_LmapSums_j6 corbellaw19_LmapSums_k2
      rw [w64 (by omega) (by omega), show (kk : Int) + 1 = ((kk + 1 : Nat) : Int) by omega]
      dsimp only
      rw [ihf, Bool.false_and, Bool.false_and]
    | true =>
      rw [cond_true, lenI_eq, decide_eq_true (show (0 : Int) ≤ kk by omega), decide_eq_true (show (kk : Int) < all.length by omega), Bool.and_self, cond_true, show (kk : Int).toNat = kk from rfl, hy1, optb_some, decide_eq_true (show (0 : Int) ≤ i by omega), decide_eq_true (show (i : Int) < all.length by omega), Bool.and_self, cond_true, show (i : Int).toNat = i from rfl, hw1, optb_some]
      unfold corbellaw19_LmapSums_j6 corbellaw19_LmapSums_k2
      rw [w64 (by omega) (by omega), show (kk : Int) + 1 = ((kk + 1 : Nat) : Int) by omega]
      dsimp only
      rw [ihf, hy2, hw2, Bool.true_and]
      congr 1
      by_cases e : x = b
      · rw [decide_eq_true e, decide_eq_true (show b ∈ x :: rest by rw [e]; exact List.mem_cons_self ..)]; rfl
      · rw [decide_eq_false e, Bool.not_false, Bool.true_and]
        congr 1
        apply decide_eq_decide.2
        rw [List.mem_cons]
        exact ⟨.inr, fun h => h.resolve_left (fun e' => e e'.symm)⟩
theorem blocks_all {R : Type} (e0 : Int → Option R) (k : Nat) (hk : 1500 ≤ k) (all : List Al) (hl : all.length ≤ 1000) : ∀ (n j i : Nat), all.length - i = n → n < j → i ≤ all.length →
    corbellaw19_LmapSums_l4 e0 k all j (((firsts ((blk all).take i)).length : Nat) : Int) i = e0 (((firsts (blk all)).length : Nat) : Int) := by
  intro n
  induction n with
  | zero =>
    intro j i hn hj hi
    obtain ⟨j, rfl⟩ : ∃ u, j = u + 1 := ⟨j - 1, by omega⟩
    rw [corbellaw19_LmapSums_l4]; unfold corbellaw19_LmapSums_l4s
    rw [lenI_eq, decide_eq_false (by omega), cond_false, List.take_of_length_le (by rw [blk_len]; omega)]
  | succ n ih =>
    intro j i hn hj hi
    obtain ⟨j, rfl⟩ : ∃ u, j = u + 1 := ⟨j - 1, by omega⟩
    have hi' : i < (blk all).length := by rw [blk_len]; omega
    have hfl := foldl_ins_len ((blk all).take i) []
    rw [List.length_nil, List.length_take] at hfl
    have hfl' : (firsts ((blk all).take i)).length ≤ 1000 := by unfold firsts; rw [blk_len] at hfl hi'; omega
    rw [corbellaw19_LmapSums_l4]; unfold corbellaw19_LmapSums_l4s
    rw [lenI_eq, decide_eq_true (show (i : Int) < all.length by omega), cond_true]
    refine Eq.trans (first_val _ k all hl i (blk all)[i] (List.getElem?_eq_getElem hi') ((blk all).take i) k 0 true (List.drop_zero) (by rw [List.length_take, blk_len]; omega) (by omega)) ?_
    rw [Bool.true_and, w64 (n := (i : Int) + 1) (by omega) (by omega)]
    have ih' := ih j (i + 1) (by omega) (by omega) (by omega)
    rw [List.take_add_one, List.getElem?_eq_getElem hi', Option.toList_some, firsts_snoc, ins_len] at ih'
    by_cases e : (blk all)[i] ∈ (blk all).take i
    · rw [if_pos ((firsts_mem _ _).2 e)] at ih'
      rw [decide_eq_true e, Bool.not_true, cond_false]
      exact ih'
    · rw [if_neg (fun e' => e ((firsts_mem _ _).1 e'))] at ih'
      rw [decide_eq_false e, Bool.not_false, cond_true, w64 (by omega) (by omega)]
      exact ih'
theorem LmapSums : LmapSumsPure := by
  intro x0 hx
  obtain ⟨xa, L⟩ := x0
  refine ⟨1700 + 300, ?_⟩
  have hsp : corbellaw19_speaks (1700 + 300) = some true := speaks19 1700
  generalize hk : 1700 + 300 = k at hsp ⊢
  unfold corbellaw19_LmapSums
  rw [hsp, optb_some, Bool.not_true, cond_false]
  refine made _ k (by omega) L true (fun seq D c m all hD hK hA => ?_) 60 k 0 0 [] 0 0 [] (by omega) (by omega) (by omega) DOK.nil rfl (by rw [List.length_nil]; omega)
  have hDl : D.length = (firsts (blk all)).length := by rw [← hK]; unfold keysD; rw [List.length_map]
  have hfl := foldl_ins_len (blk all) []
  rw [List.length_nil, blk_len] at hfl
  have hfl' : (firsts (blk all)).length ≤ 600 := by unfold firsts; omega
  refine counts_all _ k hD (by omega) true (fun out h8 hcs => ?_) D.length k [] (List.replicate (8 : Int).toNat (Ty.zero (.int .i64))) (by rw [left_nil]) (by omega) (List.length_replicate ..) (fun z hz => ⟨0, by rw [List.getElem?_replicate, if_pos (by show z < 8; exact hz)]; rfl, by rw [left_nil]; omega⟩)
  have hz := zones_all (fun v_18821 sum_18822 => some v_18821) (fun sum_18828 =>
        corbellaw19_LmapSums_l4 (fun blocks_18885 =>
          some (decide (sum_18828 = blocks_18885))) k all k (0 : Int) (0 : Int)) k (by omega) hD (by omega) out h8 hcs true (by
      have hb := blocks_all (fun blocks_18885 => some (decide (((D.length : Nat) : Int) = blocks_18885))) k (by omega) all (by omega) all.length k 0 (by omega) (by omega) (by omega)
      refine Eq.trans hb ?_
      rw [hDl, decide_eq_true rfl]) 8 k 0 (by omega) (by omega) (by omega)
  rw [below_zero hD.zone] at hz
  exact hz
end Go.Proofs.Ytbaikphpohdmoaa.Pure
