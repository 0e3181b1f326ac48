/- LmapScripts: the pure statement, over numbers and lists alone; no conditions. -/
import Derived.Test.YtbaikphpohdmoaaStatLmapScripts
set_option linter.unusedVariables false
set_option linter.unusedSimpArgs false
namespace Go.Proofs.Ytbaikphpohdmoaa.Pure
open Go Go.RowKit Go.Proofs.Ytbaikphpohdmoaa.Ev
/-! ### whole numbers -/
theorem wf_i64 {n : Int} (h : Ty.wf (.int .i64) n) : -9223372036854775808 ≤ n ∧ n ≤ 9223372036854775807 := by
  have h : (Lit.int .i64 n).wf = true := h
  simpa [Lit.wf, IntKind.min, IntKind.max, IntKind.signed, IntKind.bits] using h
theorem w64 {n : Int} (h0 : -9223372036854775808 ≤ n) (h1 : n ≤ 9223372036854775807) : wrap64 n = n := by unfold wrap64; omega
theorem tdiv_pos {a b : Int} (ha : 0 ≤ a) : Int.tdiv a b = a / b := Int.tdiv_eq_ediv_of_nonneg ha
theorem tmod_pos {a b : Int} (ha : 0 ≤ a) : Int.tmod a b = a % b := Int.tmod_eq_emod_of_nonneg ha
theorem bytesOf_append (a b : List Int) : bytesOf a ++ bytesOf b = bytesOf (a ++ b) := by
  apply ByteArray.ext
  simp [bytesOf]
theorem cond_t {α : Type} {c : Bool} {a b : α} (h : c = true) : (bif c then a else b) = a := by rw [h]; rfl
theorem cond_f {α : Type} {c : Bool} {a b : α} (h : c = false) : (bif c then a else b) = b := by rw [h]; rfl
theorem optb_some {α β : Type} (a : α) (f : α → Option β) : optb (some a) f = f a := rfl
theorem and_mask (x : Int) (i : Nat) (hi : i ≤ 62) : bitop .and .i64 x (2 ^ i - 1) = x % 2 ^ i := by
  have h2 : (2 : Nat) ^ i ≤ 2 ^ 62 := Nat.pow_le_pow_right (by decide) hi
  have h62 : (2 : Nat) ^ 62 = 4611686018427387904 := by decide
  have h64 : (2 : Nat) ^ 64 = 18446744073709551616 := by decide
  have hp : 0 < 2 ^ i := Nat.two_pow_pos i
  have hc : ((2 : Int) ^ i - 1) = ((2 ^ i - 1 : Nat) : Int) := by rw [Int.natCast_sub hp]; simp
  have hd : (2 ^ i : Nat) ∣ 2 ^ 64 := Nat.pow_dvd_pow 2 (by omega)
  have hb : IntKind.i64.bits = 64 := rfl
  have key : ((BitVec.ofInt 64 x &&& BitVec.ofInt 64 (2 ^ i - 1)).toNat : Int) = x % 2 ^ i := by
    rw [hc, BitVec.ofInt_natCast, BitVec.toNat_and, BitVec.toNat_ofNat, Nat.mod_eq_of_lt (show 2 ^ i - 1 < 2 ^ 64 by omega), Nat.and_two_pow_sub_one_eq_mod, BitVec.toNat_ofInt,
      Int.natCast_emod, Int.toNat_of_nonneg (Int.emod_nonneg _ (by decide)), Int.emod_emod_of_dvd]
    · simp
    · exact Int.natCast_dvd_natCast.2 hd
  have hlt : ((BitVec.ofInt 64 x &&& BitVec.ofInt 64 (2 ^ i - 1)).toNat : Int) < 4611686018427387904 := by
    rw [key]
    have : x % ((2 ^ i : Nat) : Int) < ((2 ^ i : Nat) : Int) := Int.emod_lt_of_pos _ (by omega)
    have e : ((2 ^ i : Nat) : Int) = (2 : Int) ^ i := by simp
    rw [e] at this
    have : (2 : Int) ^ i ≤ 4611686018427387904 := by rw [← e]; omega
    omega
  show IntKind.i64.wrap ((BitVec.ofInt 64 x &&& BitVec.ofInt 64 (2 ^ i - 1)).toNat : Int) = x % 2 ^ i
  rw [IntKind.wrap_i64]
  omega
theorem speaks19 (d : Nat) : corbellaw19_speaks (d + 300) = some true := by kernel_rfl
/-! ### maps as lists of entries -/
theorem eqb_iff : ∀ (t : Ty) (x y : t.den), t.noSl = true → (t.eqb x y = true ↔ x = y) := eqb_eq
theorem mget_put {α : Type} {K : Ty} (hn : K.noSl = true) (k k' : K.den) (v : α) (c : Nat) : ∀ D : List (Nat × K.den × α), mget K (mput K k v c D) k' = bif K.eqb k' k then some v else mget K D k'
  | [] => by simp only [mput, mget]
  | d :: r => by
    simp only [mput]
    cases h : K.eqb k d.2.1 with
    | true =>
      rw [cond_true]
      simp only [mget]
      have e := (eqb_iff K _ _ hn).1 h
      rw [← e]
      cases K.eqb k' k <;> rfl
    | false =>
      rw [cond_false]
      simp only [mget]
      cases h2 : K.eqb k' d.2.1 with
      | true =>
        have e := (eqb_iff K _ _ hn).1 h2
        have : K.eqb k' k = false := by
          cases h3 : K.eqb k' k with
          | false => rfl
          | true =>
            have e3 := (eqb_iff K _ _ hn).1 h3
            rw [← e3, e] at h
            rw [(eqb_iff K _ _ hn).2 rfl] at h; cases h
        rw [this]; rfl
      | false => rw [cond_false]; exact mget_put hn k k' v c r
theorem mget_puti {α : Type} (k k' : Int) (v : α) (c : Nat) (D : List (Nat × Int × α)) : mget (.int .i64) (mput (.int .i64) k v c D) k' = if k' = k then some v else mget (.int .i64) D k' := by
  rw [mget_put (K := .int .i64) rfl]
  show (bif decide (k' = k) then _ else _) = _
  by_cases h : k' = k
  · rw [decide_eq_true h, if_pos h]; rfl
  · rw [decide_eq_false h, if_neg h]; rfl
/-! ### lmap's Add: which entry a block has -/
abbrev Vn : Type := (Int × (Int × Int)) × (Int × Bool)
abbrev Dn : Type := List (Nat × Int × Vn)
abbrev gt (D : Dn) (b : Int) : Option Vn := mget (.int .i64) D b
def zn : Vn := Ty.zero (.pair (.pair (.int .i64) (.pair (.int .i64) (.int .i64))) (.pair (.int .i64) .bool))
def addE (zone at_ seq : Int) : List (Int × Bool) → Int → Dn × Nat → Dn × Nat
  | [], _, s => s
  | e :: r, i, s => addE zone at_ seq r (i + 1) (bif mhas (.int .i64) s.1 e.1 && decide (seq < (mval (.int .i64) zn s.1 e.1).2.1) then s
      else (mput (.int .i64) e.1 ((zone, (at_, i)), (seq, e.2)) s.2 s.1, mclk (.int .i64) s.1 e.1 s.2))
def ownE (zone at_ seq : Int) : List (Int × Bool) → Int → Int → Option Vn
  | [], _, _ => none
  | e :: r, i, b => match ownE zone at_ seq r (i + 1) b with
    | some v => some v
    | none => if b = e.1 then some ((zone, (at_, i)), (seq, e.2)) else none
theorem ownE_cons (zone at_ seq : Int) (e : Int × Bool) (r : List (Int × Bool)) (i b : Int) : ownE zone at_ seq (e :: r) i b = match ownE zone at_ seq r (i + 1) b with
    | some v => some v
    | none => if b = e.1 then some ((zone, (at_, i)), (seq, e.2)) else none := rfl
theorem ownE_seq {zone at_ seq : Int} : ∀ (es : List (Int × Bool)) (i b : Int) (v : Vn), ownE zone at_ seq es i b = some v → v.2.1 = seq
  | [], _, _, _, h => by simp [ownE] at h
  | e :: r, i, b, v, h => by
    unfold ownE at h
    split at h
    · rename_i w hw; cases h; exact ownE_seq r _ _ _ hw
    · split at h
      · cases h; rfl
      · cases h
/-- What a block has behind a group: the group's entry, if there is one and nothing newer was there. -/
def joinE (o n : Option Vn) (seq : Int) : Option Vn := match n with
  | none => o
  | some v => match o with
    | some w => if seq < w.2.1 then some w else some v
    | none => some v
theorem addE_get {zone at_ seq : Int} : ∀ (es : List (Int × Bool)) (i : Int) (s : Dn × Nat) (b : Int), gt (addE zone at_ seq es i s).1 b = joinE (gt s.1 b) (ownE zone at_ seq es i b) seq
  | [], _, _, _ => rfl
  | e :: r, i, s, b => by
    unfold addE
    rw [addE_get r]
    -- what this entry does
    have h1 : ∀ b, gt ((bif mhas (.int .i64) s.1 e.1 && decide (seq < (mval (.int .i64) zn s.1 e.1).2.1) then s else (mput (.int .i64) e.1 ((zone, (at_, i)), (seq, e.2)) s.2 s.1, mclk (.int .i64) s.1 e.1 s.2)) : Dn × Nat).1 b =
        joinE (gt s.1 b) (if b = e.1 then some ((zone, (at_, i)), (seq, e.2)) else none) seq := fun b => by
      unfold mhas mval
      by_cases hb : b = e.1
      · subst hb
        rw [if_pos rfl]
        unfold joinE
        cases hg : gt s.1 e.1 with
        | none =>
          have hg' : mget (.int .i64) s.1 e.1 = none := hg
          rw [hg']
          simp only [Option.isSome_none, Bool.false_and, cond_false]
          show mget (.int .i64) (mput (.int .i64) e.1 _ s.2 s.1) e.1 = _
          rw [mget_puti, if_pos rfl]
        | some w =>
          have hg' : mget (.int .i64) s.1 e.1 = some w := hg
          rw [hg']
          simp only [Option.isSome_some, Bool.true_and, Option.getD_some]
          by_cases hs : seq < w.2.1
          · rw [decide_eq_true hs, cond_true, if_pos hs]; exact hg'
          · rw [decide_eq_false hs, cond_false, if_neg hs]
            show mget (.int .i64) (mput (.int .i64) e.1 _ s.2 s.1) e.1 = _
            rw [mget_puti, if_pos rfl]
      · rw [if_neg hb]
        show _ = gt s.1 b
        cases (mget (.int .i64) s.1 e.1).isSome && decide (seq < ((mget (.int .i64) s.1 e.1).getD zn).2.1) with
        | true => rfl
        | false =>
          show mget (.int .i64) (mput (.int .i64) e.1 _ s.2 s.1) b = _
          rw [mget_puti, if_neg hb]
    rw [h1 b, ownE_cons]
    cases ho : ownE zone at_ seq r (i + 1) b with
    | none => rfl
    | some v =>
      have hv := ownE_seq r _ _ _ ho
      by_cases hb : b = e.1
      · rw [if_pos hb]
        unfold joinE
        cases hg : gt s.1 b with
        | none => simp only; rw [if_neg (Int.lt_irrefl _)]
        | some w =>
          simp only
          by_cases hs : seq < w.2.1
          · rw [if_pos hs]; try simp only [if_pos hs]
          · rw [if_neg hs]; simp only [if_neg hs, if_neg (Int.lt_irrefl _)]
      · rw [if_neg hb]; rfl
/-! ### a map's keys, and when they were born -/
def keysD (D : Dn) : List Int := D.map (·.2.1)
def bornD (D : Dn) : List Nat := D.map (·.1)
def ins (acc : List Int) (b : Int) : List Int := if b ∈ acc then acc else acc ++ [b]
def firsts (l : List Int) : List Int := l.foldl ins []
theorem eqbi (a b : Int) : Ty.eqb (.int .i64) a b = decide (a = b) := rfl
theorem put_keys (k : Int) (v : Vn) (c : Nat) : ∀ D : Dn, keysD (mput (.int .i64) k v c D) = ins (keysD D) k
  | [] => by unfold ins; rw [if_neg (by simp [keysD])]; rfl
  | d :: r => by
    simp only [mput]
    rw [eqbi]
    by_cases h : k = d.2.1
    · rw [decide_eq_true h, cond_true]
      unfold ins
      rw [if_pos (by rw [h]; exact List.mem_cons_self ..)]
      show k :: keysD r = d.2.1 :: keysD r
      rw [h]
    · rw [decide_eq_false h, cond_false]
      have ih := put_keys k v c r
      show d.2.1 :: keysD (mput (.int .i64) k v c r) = ins (d.2.1 :: keysD r) k
      rw [ih]
      unfold ins
      by_cases hm : k ∈ keysD r
      · rw [if_pos hm, if_pos (List.mem_cons_of_mem _ hm)]
      · rw [if_neg hm, if_neg (by rw [List.mem_cons]; exact fun e => e.elim h hm)]; rfl
theorem put_born (k : Int) (v : Vn) (c : Nat) : ∀ D : Dn, bornD (mput (.int .i64) k v c D) = if k ∈ keysD D then bornD D else bornD D ++ [c]
  | [] => by rw [if_neg (by simp [keysD])]; rfl
  | d :: r => by
    simp only [mput]
    rw [eqbi]
    by_cases h : k = d.2.1
    · rw [decide_eq_true h, cond_true, if_pos (by rw [h]; exact List.mem_cons_self ..)]; rfl
    · rw [decide_eq_false h, cond_false]
      have ih := put_born k v c r
      show d.1 :: bornD (mput (.int .i64) k v c r) = _
      rw [ih]
      by_cases hm : k ∈ keysD r
      · rw [if_pos hm, if_pos (show k ∈ keysD (d :: r) from List.mem_cons_of_mem _ hm)]; rfl
      · rw [if_neg hm, if_neg (show ¬ k ∈ keysD (d :: r) by show ¬ k ∈ d.2.1 :: keysD r; rw [List.mem_cons]; exact fun e => e.elim h hm)]; rfl
theorem mem_put (k : Int) (v : Vn) (c : Nat) : ∀ (D : Dn) (x : Nat × Int × Vn), x ∈ mput (.int .i64) k v c D → x ∈ D ∨ x.2 = (k, v)
  | [], x, h => .inr (by rw [List.mem_singleton.1 h])
  | d :: r, x, h => by
    simp only [mput] at h
    rw [eqbi] at h
    by_cases e : k = d.2.1
    · rw [decide_eq_true e, cond_true] at h
      rcases List.mem_cons.1 h with h | h
      · exact .inr (by rw [h])
      · exact .inl (List.mem_cons_of_mem _ h)
    · rw [decide_eq_false e, cond_false] at h
      rcases List.mem_cons.1 h with h | h
      · exact .inl (by rw [h]; exact List.mem_cons_self ..)
      · rcases mem_put k v c r x h with h | h
        · exact .inl (List.mem_cons_of_mem _ h)
        · exact .inr h
theorem has_iff (k : Int) : ∀ D : Dn, mhas (.int .i64) D k = decide (k ∈ keysD D)
  | [] => by rw [decide_eq_false (by simp [keysD])]; rfl
  | d :: r => by
    have ih := has_iff k r
    unfold mhas at ih ⊢
    simp only [mget]
    rw [eqbi]
    by_cases e : k = d.2.1
    · rw [decide_eq_true e, cond_true, decide_eq_true (show k ∈ keysD (d :: r) by rw [e]; exact List.mem_cons_self ..)]; rfl
    · rw [decide_eq_false e, cond_false, ih]
      apply decide_eq_decide.2
      show _ ↔ k ∈ d.2.1 :: keysD r
      rw [List.mem_cons]
      exact ⟨.inr, fun h => h.resolve_left e⟩
theorem get_mem : ∀ {D : Dn}, (keysD D).Nodup → ∀ {d : Nat × Int × Vn}, d ∈ D → mget (.int .i64) D d.2.1 = some d.2.2
  | [], _, _, h => by cases h
  | x :: r, hn, d, h => by
    have hn' : x.2.1 ∉ keysD r ∧ (keysD r).Nodup := List.nodup_cons.1 hn
    simp only [mget]
    rw [eqbi]
    rcases List.mem_cons.1 h with h | h
    · rw [h, decide_eq_true rfl]; rfl
    · have : d.2.1 ≠ x.2.1 := fun e => hn'.1 (by rw [← e]; exact List.mem_map_of_mem h)
      rw [decide_eq_false this, cond_false]
      exact get_mem hn'.2 h
theorem ins_nodup {l : List Int} (h : l.Nodup) (b : Int) : (ins l b).Nodup := by
  unfold ins
  by_cases e : b ∈ l
  · rw [if_pos e]; exact h
  · rw [if_neg e]
    refine List.nodup_append.2 ⟨h, by simp, ?_⟩
    intro a ha c hc
    rw [List.mem_singleton.1 hc]
    rintro rfl; exact e ha
theorem mem_ins {l : List Int} {b x : Int} : x ∈ ins l b ↔ x ∈ l ∨ x = b := by
  unfold ins
  by_cases e : b ∈ l
  · rw [if_pos e]; exact ⟨.inl, fun h => h.elim id (fun h => by rw [h]; exact e)⟩
  · rw [if_neg e, List.mem_append, List.mem_singleton]
theorem mem_foldl_ins : ∀ (l acc : List Int) (x : Int), x ∈ l.foldl ins acc ↔ x ∈ acc ∨ x ∈ l
  | [], acc, x => by simp
  | b :: l, acc, x => by
    rw [List.foldl_cons, mem_foldl_ins l, mem_ins, List.mem_cons, or_assoc]
theorem firsts_snoc (l : List Int) (b : Int) : firsts (l ++ [b]) = ins (firsts l) b := by unfold firsts; rw [List.foldl_append]; rfl
theorem firsts_app (l m : List Int) : firsts (l ++ m) = m.foldl ins (firsts l) := by unfold firsts; rw [List.foldl_append]
theorem firsts_mem (l : List Int) (x : Int) : x ∈ firsts l ↔ x ∈ l := by unfold firsts; rw [mem_foldl_ins]; simp
theorem ins_len (l : List Int) (b : Int) : (ins l b).length = if b ∈ l then l.length else l.length + 1 := by
  unfold ins
  by_cases e : b ∈ l
  · rw [if_pos e, if_pos e]
  · rw [if_neg e, if_neg e, List.length_append]; rfl
theorem foldl_ins_len : ∀ (l acc : List Int), (l.foldl ins acc).length ≤ acc.length + l.length
  | [], acc => by simp
  | b :: l, acc => by
    rw [List.foldl_cons, List.length_cons]
    have h1 := foldl_ins_len l (ins acc b)
    have h2 := ins_len acc b
    split at h2 <;> omega
structure DOK (D : Dn) (c : Nat) : Prop where
  keys : (keysD D).Nodup
  born : (bornD D).Nodup
  lt : ∀ b ∈ bornD D, b < c
  zone : ∀ d ∈ D, 0 ≤ d.2.2.1.1 ∧ d.2.2.1.1 < 8
theorem DOK.nil : DOK [] 0 := ⟨List.nodup_nil, List.nodup_nil, (fun _ h => by cases h), (fun _ h => by cases h)⟩
theorem DOK.put {D : Dn} {c : Nat} (h : DOK D c) (k : Int) {v : Vn} (hz : 0 ≤ v.1.1 ∧ v.1.1 < 8) : DOK (mput (.int .i64) k v c D) (mclk (.int .i64) D k c) := by
  unfold mclk
  rw [has_iff]
  refine ⟨by rw [put_keys]; exact ins_nodup h.keys k, ?_, ?_, ?_⟩
  · rw [put_born]
    by_cases e : k ∈ keysD D
    · rw [if_pos e]; exact h.born
    · rw [if_neg e]
      refine List.nodup_append.2 ⟨h.born, by simp, ?_⟩
      intro a ha b hb
      rw [List.mem_singleton.1 hb]
      have := h.lt a ha
      omega
  · intro b hb
    rw [put_born] at hb
    by_cases e : k ∈ keysD D
    · rw [if_pos e] at hb; rw [decide_eq_true e]; exact h.lt b hb
    · rw [if_neg e] at hb
      rw [decide_eq_false e]
      show b < c + 1
      rcases List.mem_append.1 hb with hb | hb
      · have := h.lt b hb; omega
      · rw [List.mem_singleton.1 hb]; omega
  · intro d hd
    rcases mem_put k v c D d hd with hd | hd
    · exact h.zone d hd
    · rw [show d.2.2 = v by rw [hd]]; exact hz
theorem addE_ok {zone at_ seq : Int} (hz : 0 ≤ zone ∧ zone < 8) : ∀ (es : List (Int × Bool)) (i : Int) (D : Dn) (c : Nat), DOK D c →
    DOK (addE zone at_ seq es i (D, c)).1 (addE zone at_ seq es i (D, c)).2 ∧ keysD (addE zone at_ seq es i (D, c)).1 = (es.map (·.1)).foldl ins (keysD D)
  | [], i, D, c, h => ⟨h, rfl⟩
  | e :: es, i, D, c, h => by
    unfold addE
    rw [has_iff, List.map_cons, List.foldl_cons]
    by_cases hc : (decide (e.1 ∈ keysD D) && decide (seq < (mval (.int .i64) zn D e.1).2.1)) = true
    · rw [hc, cond_true]
      have hm : e.1 ∈ keysD D := by
        rw [Bool.and_eq_true] at hc
        exact of_decide_eq_true hc.1
      have := addE_ok (at_ := at_) (seq := seq) hz es (i + 1) D c h
      rw [show ins (keysD D) e.1 = keysD D by unfold ins; rw [if_pos hm]]
      exact this
    · rw [Bool.eq_false_iff.2 hc, cond_false]
      have := addE_ok (at_ := at_) (seq := seq) hz es (i + 1) _ _ (h.put e.1 (v := ((zone, (at_, i)), (seq, e.2))) hz)
      rw [put_keys] at this
      exact this
/-! ### a range over a map: in any order -/
theorem nbeq_f {a b : Nat} (h : a ≠ b) : Nat.beq a b = false := by
  cases hb : Nat.beq a b with
  | false => rfl
  | true => exact absurd (Nat.eq_of_beq_eq_true hb) h
theorem nbeq_comm (a b : Nat) : Nat.beq a b = Nat.beq b a := by
  by_cases h : a = b
  · rw [h]
  · rw [nbeq_f h, nbeq_f (Ne.symm h)]
theorem perm_out {L : Dn} (hn : (bornD L).Nodup) : ∀ {d : Nat × Int × Vn}, d ∈ L → L.Perm (d :: L.filter fun x => !Nat.beq x.1 d.1) := by
  induction L with
  | nil => intro d h; cases h
  | cons x r ih =>
    intro d h
    have hn' : x.1 ∉ bornD r ∧ (bornD r).Nodup := List.nodup_cons.1 hn
    rcases List.mem_cons.1 h with e | h'
    · subst e
      rw [List.filter_cons_of_neg (by simp)]
      have : r.filter (fun x => !Nat.beq x.1 d.1) = r := List.filter_eq_self.2 fun y hy => by
        have : y.1 ≠ d.1 := fun e => hn'.1 (by rw [← e]; exact List.mem_map_of_mem hy)
        rw [nbeq_f this]; rfl
      rw [this]
    · have hne : x.1 ≠ d.1 := fun e => hn'.1 (by rw [e]; exact List.mem_map_of_mem h')
      rw [List.filter_cons_of_pos (by rw [nbeq_f hne]; rfl)]
      exact ((ih hn'.2 h').cons x).trans (.swap _ _ _)
theorem memN_app (x : Nat) : ∀ (l : List Nat) (y : Nat), memN (l ++ [y]) x = (memN l x || Nat.beq x y) := by
  intro l y
  induction l with
  | nil =>
    show (bif Nat.beq y x then true else false) = (false || Nat.beq x y)
    rw [nbeq_comm y x]; cases Nat.beq x y <;> rfl
  | cons a l ih =>
    show (bif Nat.beq a x then true else memN (l ++ [y]) x) = ((bif Nat.beq a x then true else memN l x) || Nat.beq x y)
    rw [ih]; cases Nat.beq a x <;> rfl
theorem left_snoc (D : Dn) (s : List Nat) (b : Nat) : leftD D (s ++ [b]) = (leftD D s).filter fun x => !Nat.beq x.1 b := by
  unfold leftD
  rw [List.filter_filter]
  apply List.filter_congr
  intro x _
  rw [memN_app, Bool.not_or, Bool.and_comm]
theorem left_step {D : Dn} (hn : (bornD D).Nodup) {s : List Nat} {d : Nat × Int × Vn} (hd : d ∈ leftD D s) : (leftD D s).Perm (d :: leftD D (s ++ [d.1])) := by
  rw [left_snoc]
  refine perm_out ?_ hd
  unfold leftD bornD at *
  exact List.Nodup.sublist (List.Sublist.map _ (List.filter_sublist)) hn
theorem last_snoc : ∀ (s : List Nat) (b : Nat), lastSeen (s ++ [b]) = some b
  | [], b => rfl
  | [a], b => rfl
  | a :: c :: s, b => last_snoc (c :: s) b
theorem find_born : ∀ {D : Dn}, (bornD D).Nodup → ∀ {d : Nat × Int × Vn}, d ∈ D → D.find? (fun x => Nat.beq x.1 d.1) = some d
  | [], _, _, h => by cases h
  | x :: r, hn, d, h => by
    have hn' : x.1 ∉ bornD r ∧ (bornD r).Nodup := List.nodup_cons.1 hn
    rcases List.mem_cons.1 h with e | h'
    · subst e; rw [List.find?_cons_of_pos (by simp)]
    · have hne : x.1 ≠ d.1 := fun e => hn'.1 (by rw [e]; exact List.mem_map_of_mem h')
      rw [List.find?_cons_of_neg (by rw [nbeq_f hne]; simp)]
      exact find_born hn'.2 h'
theorem entry_snoc {D : Dn} (hn : (bornD D).Nodup) {s : List Nat} {d : Nat × Int × Vn} (hd : d ∈ D) : entryD D (s ++ [d.1]) = some d.2 := by
  unfold entryD
  rw [last_snoc]
  simp only
  rw [find_born hn hd]; rfl
theorem left_mem {D : Dn} {s : List Nat} {d : Nat × Int × Vn} (h : d ∈ leftD D s) : d ∈ D := (List.mem_filter.1 h).1
theorem left_nil (D : Dn) : leftD D [] = D := List.filter_eq_self.2 fun _ _ => rfl
/-! ### the newest entry of a block -/
abbrev Al : Type := Int × (Int × (Int × (Int × (Int × Bool))))
def valA (x : Al) : Vn := ((x.1, (x.2.1, x.2.2.1)), (x.2.2.2.1, x.2.2.2.2.2))
def stepN (b : Int) (o : Option Al) (x : Al) : Option Al := if x.2.2.2.2.1 = b then (match o with | none => some x | some y => if y.2.2.2.1 ≤ x.2.2.2.1 then some x else some y) else o
def newest (l : List Al) (b : Int) : Option Al := l.foldl (stepN b) none
theorem newest_snoc (l : List Al) (x : Al) (b : Int) : newest (l ++ [x]) b = stepN b (newest l b) x := by unfold newest; rw [List.foldl_append]; rfl
theorem stepN_cases (b : Int) (o : Option Al) (x : Al) : stepN b o x = o ∨ (stepN b o x = some x ∧ x.2.2.2.2.1 = b) := by
  unfold stepN
  by_cases h : x.2.2.2.2.1 = b
  · rw [if_pos h]
    cases o with
    | none => exact .inr ⟨rfl, h⟩
    | some y =>
      simp only
      by_cases h2 : y.2.2.2.1 ≤ x.2.2.2.1
      · rw [if_pos h2]; exact .inr ⟨rfl, h⟩
      · rw [if_neg h2]; exact .inl rfl
  · rw [if_neg h]; exact .inl rfl
theorem fold_mem (b : Int) : ∀ (l : List Al) (o : Option Al) (x : Al), l.foldl (stepN b) o = some x → o = some x ∨ (x ∈ l ∧ x.2.2.2.2.1 = b)
  | [], o, x, h => .inl h
  | y :: l, o, x, h => by
    rw [List.foldl_cons] at h
    rcases fold_mem b l _ x h with h | ⟨h1, h2⟩
    · rcases stepN_cases b o y with e | ⟨e, hb⟩
      · rw [e] at h; exact .inl h
      · rw [e] at h; cases h; exact .inr ⟨List.mem_cons_self .., hb⟩
    · exact .inr ⟨List.mem_cons_of_mem _ h1, h2⟩
theorem newest_mem {l : List Al} {b : Int} {x : Al} (h : newest l b = some x) : x ∈ l ∧ x.2.2.2.2.1 = b := by
  rcases fold_mem b l none x h with h | h
  · cases h
  · exact h
def recsOf (z at_ s : Int) : List (Int × Bool) → Int → List Al
  | [], _ => []
  | e :: r, i => (z, (at_, (i, (s, (e.1, e.2))))) :: recsOf z at_ s r (i + 1)
def Tracks (D : Dn) (l : List Al) : Prop := ∀ b, gt D b = (newest l b).map valA
theorem addE_tracks {z at_ s : Int} : ∀ (es : List (Int × Bool)) (i : Int) (D : Dn) (c : Nat) (l : List Al), Tracks D l → Tracks (addE z at_ s es i (D, c)).1 (l ++ recsOf z at_ s es i)
  | [], i, D, c, l, h => by rw [show l ++ recsOf z at_ s [] i = l from List.append_nil l]; exact h
  | e :: es, i, D, c, l, h => by
    rw [show l ++ recsOf z at_ s (e :: es) i = (l ++ [(z, (at_, (i, (s, (e.1, e.2)))))]) ++ recsOf z at_ s es (i + 1) by rw [List.append_assoc]; rfl]
    unfold addE
    have key : Tracks ((bif mhas (.int .i64) D e.1 && decide (s < (mval (.int .i64) zn D e.1).2.1) then (D, c) else (mput (.int .i64) e.1 ((z, (at_, i)), (s, e.2)) c D, mclk (.int .i64) D e.1 c)) : Dn × Nat).1 (l ++ [(z, (at_, (i, (s, (e.1, e.2)))))]) := by
      intro b
      rw [newest_snoc]
      have hb := h b
      have he := h e.1
      by_cases hbe : b = e.1
      · subst hbe
        unfold stepN
        rw [if_pos rfl]
        cases hn : newest l e.1 with
        | none =>
          rw [hn] at he
          have he : mget (.int .i64) D e.1 = none := he
          have hh : mhas (.int .i64) D e.1 = false := by unfold mhas; rw [he]; rfl
          rw [hh, Bool.false_and, cond_false]
          show mget (.int .i64) (mput (.int .i64) e.1 _ c D) e.1 = _
          rw [mget_puti, if_pos rfl]; rfl
        | some y =>
          rw [hn] at he
          have he : mget (.int .i64) D e.1 = some (valA y) := he
          have hh : mhas (.int .i64) D e.1 = true := by unfold mhas; rw [he]; rfl
          have hv : mval (.int .i64) zn D e.1 = valA y := by unfold mval; rw [he]; rfl
          rw [hh, Bool.true_and, hv]
          simp only
          by_cases hs : y.2.2.2.1 ≤ s
          · rw [decide_eq_false (show ¬ s < (valA y).2.1 by show ¬ s < y.2.2.2.1; omega), cond_false, if_pos hs]
            show mget (.int .i64) (mput (.int .i64) e.1 _ c D) e.1 = _
            rw [mget_puti, if_pos rfl]; rfl
          · rw [decide_eq_true (show s < (valA y).2.1 by show s < y.2.2.2.1; omega), cond_true, if_neg hs]
            exact he
      · have hsn : stepN b (newest l b) (z, (at_, (i, (s, (e.1, e.2))))) = newest l b := by unfold stepN; rw [if_neg (fun e' => hbe e'.symm)]
        rw [hsn, ← hb]
        cases mhas (.int .i64) D e.1 && decide (s < (mval (.int .i64) zn D e.1).2.1) with
        | true => rfl
        | false =>
          show mget (.int .i64) (mput (.int .i64) e.1 _ c D) b = _
          rw [mget_puti, if_neg hbe]
    cases hc : (bif mhas (.int .i64) D e.1 && decide (s < (mval (.int .i64) zn D e.1).2.1) then (D, c) else (mput (.int .i64) e.1 ((z, (at_, i)), (s, e.2)) c D, mclk (.int .i64) D e.1 c) : Dn × Nat) with
    | mk D' c' =>
      rw [hc] at key
      exact addE_tracks es (i + 1) D' c' _ key
def ltA (x y : Al) : Prop := x.2.1 < y.2.1 ∨ x.2.1 = y.2.1 ∧ x.2.2.1 < y.2.2.1
theorem recs_sorted {z at_ s : Int} : ∀ (es : List (Int × Bool)) (i : Int), (recsOf z at_ s es i).Pairwise ltA ∧ ∀ x ∈ recsOf z at_ s es i, x.2.1 = at_ ∧ i ≤ x.2.2.1
  | [], i => ⟨List.Pairwise.nil, fun x h => by cases h⟩
  | e :: es, i => by
    obtain ⟨h1, h2⟩ := recs_sorted (z := z) (at_ := at_) (s := s) es (i + 1)
    refine ⟨List.Pairwise.cons (fun x hx => ?_) h1, fun x hx => ?_⟩
    · have := h2 x hx
      exact .inr ⟨this.1.symm, by show i < x.2.2.1; omega⟩
    · rcases List.mem_cons.1 hx with h | h
      · rw [h]; exact ⟨rfl, Int.le_refl _⟩
      · have := h2 x h; exact ⟨this.1, by omega⟩
theorem recs_len {z at_ s : Int} : ∀ (es : List (Int × Bool)) (i : Int), (recsOf z at_ s es i).length = es.length
  | [], _ => rfl
  | e :: es, i => by show (recsOf z at_ s es (i + 1)).length + 1 = _; rw [recs_len es (i + 1)]; rfl
/-! ### Counts and Live: whatever the order of the range -/
def cz (z : Int) (L : Dn) : Nat := L.countP fun d => decide (d.2.2.1.1 = z)
theorem cz_le (z : Int) (L : Dn) : cz z L ≤ L.length := List.countP_le_length
theorem cz_step {D : Dn} (hn : (bornD D).Nodup) {s : List Nat} {d : Nat × Int × Vn} (hd : d ∈ leftD D s) (z : Int) : cz z (leftD D s) = (if d.2.2.1.1 = z then 1 else 0) + cz z (leftD D (s ++ [d.1])) := by
  unfold cz
  rw [(left_step hn hd).countP_eq, List.countP_cons]
  by_cases e : d.2.2.1.1 = z
  · rw [if_pos e, decide_eq_true e, if_pos rfl, Nat.add_comm]
  · rw [if_neg e, decide_eq_false e, if_neg (by simp), Nat.add_comm]
theorem len_step {D : Dn} (hn : (bornD D).Nodup) {s : List Nat} {d : Nat × Int × Vn} (hd : d ∈ leftD D s) : (leftD D s).length = (leftD D (s ++ [d.1])).length + 1 := (left_step hn hd).length_eq
theorem guard_ok (c : Nat) : (Nat.beq c c && Nat.ble c c) = true := by
  rw [Bool.and_eq_true]
  exact ⟨Nat.beq_refl c, by rw [Nat.ble_eq]; exact Nat.le_refl c⟩
theorem empty_iff {α : Type} (l : List α) : l.isEmpty = decide (l.length = 0) := by
  cases l with
  | nil => rfl
  | cons => rw [decide_eq_false (by simp)]; rfl
theorem counts_Z {R : Type} (e0 : List Int → Option R) (k : Nat) {D : Dn} {c : Nat} (h : DOK D c) (hl : D.length ≤ 1000) (Z : Nat) (hZ : Z ≤ 1000) (r : R)
    (he : ∀ out : List Int, out.length = Z → (∀ z : Nat, z < Z → out[z]? = some ((cz z D : Nat) : Int)) → e0 out = some r) :
    ∀ (n j : Nat) (seen : List Nat) (out : List Int), (leftD D seen).length = n → n < j → out.length = Z → (∀ z : Nat, z < Z → ∃ a : Nat, out[z]? = some (a : Int) ∧ a + cz z (leftD D seen) = cz z D) →
    corbellaw19_LmapScripts_i19_3_l1 e0 k Z D c c j out seen c = some r := by
  intro n
  induction n with
  | zero =>
    intro j seen out hn hj ho hz
    obtain ⟨j, rfl⟩ : ∃ u, j = u + 1 := ⟨j - 1, by omega⟩
    rw [corbellaw19_LmapScripts_i19_3_l1]; unfold corbellaw19_LmapScripts_i19_3_l1s
    rw [guard_ok, cond_true, empty_iff, decide_eq_true hn, cond_true]
    refine he out ho fun z hz' => ?_
    obtain ⟨a, h1, h2⟩ := hz z hz'
    have := cz_le z (leftD D seen)
    rw [h1, show a = cz z D by omega]
  | succ n ih =>
    intro j seen out hn hj ho hz
    obtain ⟨j, rfl⟩ : ∃ u, j = u + 1 := ⟨j - 1, by omega⟩
    rw [corbellaw19_LmapScripts_i19_3_l1]; unfold corbellaw19_LmapScripts_i19_3_l1s
    rw [guard_ok, cond_true, empty_iff, decide_eq_false (show ¬ (leftD D seen).length = 0 by omega), cond_false]
    refine demon_intro (by intro e; rw [e] at hn; simp at hn) fun d hd => ?_
    have hdz := h.zone d (left_mem hd)
    rw [Nat.beq_refl c]
    show optb (entryD D (seen ++ [d.1])) _ = _
    rw [entry_snoc h.born (left_mem hd), optb_some, decide_eq_true hdz.1, cond_true]
    obtain ⟨z, hzz⟩ : ∃ z : Nat, d.2.2.1.1 = (z : Int) := ⟨d.2.2.1.1.toNat, by omega⟩
    have hlen := len_step h.born hd
    unfold corbellaw19_LmapScripts_i19_3_j2
    by_cases hzZ : z < Z
    · obtain ⟨a, h1, h2⟩ := hz z hzZ
      have hcz := cz_le z D
      rw [hzz, decide_eq_true (show (z : Int) < Z by omega), cond_true, lenI_eq, ho, decide_eq_true (show (0 : Int) ≤ z by omega), decide_eq_true (show (z : Int) < Z by omega), Bool.and_self, cond_true, show (z : Int).toNat = z from rfl, h1, optb_some, cond_true, optb_some, w64 (by omega) (by omega)]
      refine ih j (seen ++ [d.1]) (List.set out z ((a : Int) + 1)) (by omega) (by omega) (by rw [List.length_set]; exact ho) fun y hy => ?_
      have hst := cz_step h.born hd y
      by_cases e : y = z
      · subst e
        refine ⟨a + 1, by rw [List.getElem?_set_self (by omega)]; rfl, ?_⟩
        rw [if_pos hzz] at hst; omega
      · obtain ⟨a', h1', h2'⟩ := hz y hy
        refine ⟨a', by rw [List.getElem?_set_ne (fun e' => e e'.symm)]; exact h1', ?_⟩
        rw [if_neg (by omega)] at hst; omega
    · rw [hzz, decide_eq_false (show ¬ (z : Int) < Z by omega), cond_false]
      refine ih j (seen ++ [d.1]) out (by omega) (by omega) ho fun y hy => ?_
      have hst := cz_step h.born hd y
      obtain ⟨a', h1', h2'⟩ := hz y hy
      refine ⟨a', h1', ?_⟩
      rw [if_neg (by omega)] at hst; omega
abbrev Wh : Type := Int × (Int × Int)
abbrev Lv : Type := Int × (Bool × (Int × (Int × Int)))
abbrev KW : Ty := .pair (.int .i64) (.pair (.int .i64) (.int .i64))
abbrev Bp : Type := List (Nat × Wh × Lv)
def liveOf (d : Nat × Int × Vn) : Lv := (d.2.1, (d.2.2.2.2, (d.2.2.1.1, (d.2.2.1.2.1, d.2.2.1.2.2))))
def InL (D : Dn) (z : Int) (bp : Bp) (places : List Wh) : Prop := ∀ p ∈ places, ∃ d ∈ D, d.2.2.1.1 = z ∧ mget KW bp p = some (liveOf d)
abbrev z0 : Lv := Ty.zero (.pair (.int .i64) (.pair .bool (.pair (.int .i64) (.pair (.int .i64) (.int .i64)))))
theorem drop_cons' {α : Type} {L : List α} {i : Nat} {p : α} {l : List α} (h : L.drop i = p :: l) : L[i]? = some p ∧ i < L.length ∧ L.drop (i + 1) = l := by
  have h1 : i < L.length := by
    rcases Nat.lt_or_ge i L.length with h' | h'
    · exact h'
    · rw [List.drop_eq_nil_of_le h'] at h; cases h
  rw [List.drop_eq_getElem_cons h1] at h
  obtain ⟨h2, h3⟩ := List.cons.inj h
  exact ⟨by rw [List.getElem?_eq_getElem h1, h2], h1, h3⟩
theorem outs {R : Type} (e0 : List Lv → Option R) (k : Nat) (bp : Bp) (P : List Wh) (hP : P.length ≤ 1000) : ∀ (rest : List Wh) (j i : Nat) (out : List Lv), P.drop i = rest → rest.length < j → i ≤ P.length → out.length = i →
    corbellaw19_LmapScripts_i17_3_l1 e0 k (lenI P) bp P j i out = e0 (out ++ rest.map (mval KW z0 bp))
  | [], j, i, out, h, hj, hi, ho => by
    obtain ⟨j, rfl⟩ : ∃ u, j = u + 1 := ⟨j - 1, by omega⟩
    have := congrArg List.length h
    rw [List.length_drop, List.length_nil] at this
    rw [corbellaw19_LmapScripts_i17_3_l1]; unfold corbellaw19_LmapScripts_i17_3_l1s
    rw [lenI_eq, decide_eq_false (by omega), cond_false, List.map_nil, List.append_nil]
  | p :: rest, j, i, out, h, hj, hi, ho => by
    obtain ⟨j, rfl⟩ : ∃ u, j = u + 1 := ⟨j - 1, by omega⟩
    obtain ⟨h1, h2, h3⟩ := drop_cons' h
    rw [List.length_cons] at hj
    rw [corbellaw19_LmapScripts_i17_3_l1]; unfold corbellaw19_LmapScripts_i17_3_l1s
    rw [lenI_eq, decide_eq_true (show (i : Int) < P.length by omega), cond_true, decide_eq_true (show (0 : Int) ≤ i by omega), Bool.and_self, cond_true, show (i : Int).toNat = i from rfl, h1, optb_some]
    try dsimp only
    rw [decide_eq_true (by rw [List.length_singleton]; omega), cond_true, w64 (by omega) (by omega), show (i : Int) + 1 = ((i + 1 : Nat) : Int) by omega, ← lenI_eq P]
    rw [outs e0 k bp P hP rest j (i + 1) _ h3 (by omega) (by omega) (by rw [List.length_append, ho]; rfl), List.append_assoc]
    rfl
theorem sort_perm (l : List Wh) : (sort_lmap_Map_Live_1 l).Perm l := by
  have h := (Sort.pdq_sorts (ltOf cmp3) cmp3_swo l.toArray 0 l.length (Lib.bitLen l.length) true true (Nat.zero_le _) (by simp) (Or.inl rfl)).1
  have h2 := h.2.2
  have h1 := h.1
  unfold sort_lmap_Map_Live_1
  have e1 : ∀ (a : Array Wh), a.size = l.length → a.extract 0 l.length = a := fun a ha => by rw [← ha]; simp
  rw [e1 _ (by rw [h1]; simp), e1 _ (by simp)] at h2
  simpa using h2
/-! ### the groups added, one after the other -/
abbrev Gp : Type := Int × (Int × (Int × (Bool × List Int)))
def gAt (L : List Gp) (q : Int) : Gp := L.getD q.toNat (0, (0, (0, (true, []))))
theorem gAt_some {L : List Gp} {q : Int} (h0 : 0 ≤ q) (h1 : q < L.length) : L[q.toNat]? = some (gAt L q) := by
  have h : q.toNat < L.length := by omega
  unfold gAt
  rw [List.getD_eq_getElem?_getD, List.getElem?_eq_getElem h]; rfl
theorem added {R : Type} (e0 : Dn → Nat → Option R) (k : Nat) (zone at_ seq : Int) : ∀ (r p : List (Int × Bool)) (j : Nat) (D : Dn) (c : Nat), p.length + r.length ≤ 1000 → r.length < j →
    corbellaw19_LmapScripts_i20_6_l0 e0 k zone at_ (lenI (p ++ r)) (p ++ r) seq j p.length D c = e0 (addE zone at_ seq r p.length (D, c)).1 (addE zone at_ seq r p.length (D, c)).2
  | [], p, j, D, c, hl, hj => by
    obtain ⟨j, rfl⟩ : ∃ u, j = u + 1 := ⟨j - 1, by omega⟩
    rw [corbellaw19_LmapScripts_i20_6_l0]; unfold corbellaw19_LmapScripts_i20_6_l0s
    rw [lenI_eq, List.append_nil, decide_eq_false (Int.lt_irrefl _), cond_false]; rfl
  | x :: r, p, j, D, c, hl, hj => by
    rw [List.length_cons] at hj hl
    obtain ⟨j, rfl⟩ : ∃ u, j = u + 1 := ⟨j - 1, by omega⟩
    have hx : (p ++ x :: r)[(p.length : Int).toNat]? = some x := by rw [Int.toNat_natCast, List.getElem?_append_right (Nat.le_refl _), Nat.sub_self]; rfl
    have hlen : (p.length : Int) < ((p ++ x :: r).length : Int) := by rw [List.length_append, List.length_cons]; omega
    rw [corbellaw19_LmapScripts_i20_6_l0]; unfold corbellaw19_LmapScripts_i20_6_l0s
    rw [lenI_eq, decide_eq_true hlen, decide_eq_true (show (0 : Int) ≤ p.length by omega), hx]
    simp only [Bool.and_self, cond_true, optb_some]
    unfold corbellaw19_LmapScripts_i20_6_j1 corbellaw19_LmapScripts_i20_6_j2
    rw [w64 (n := (p.length : Int) + 1) (by omega) (by omega)]
    have ih := fun D c => added e0 k zone at_ seq r (p ++ [x]) j D c (by rw [List.length_append, List.length_singleton]; omega) (by omega)
    rw [List.append_assoc, List.singleton_append, List.length_append, List.length_singleton, lenI_eq, show ((p.length + 1 : Nat) : Int) = (p.length : Int) + 1 by omega] at ih
    dsimp only
    rw [ih, ih, addE]
    show (bif mhas (.int .i64) D x.1 then bif decide (seq < (mval (.int .i64) zn D x.1).2.1) then _ else _ else _) = _
    cases mhas (.int .i64) D x.1 with
    | false => rfl
    | true =>
      cases decide (seq < (mval (.int .i64) zn D x.1).2.1) with
      | false => rfl
      | true => rfl
def bt (b : Int) : Int × Bool := if b < 0 then (wrap64 ((0 : Int) - (wrap64 (b + (1 : Int)))), true) else (b, false)
def ents (g : Gp) : List (Int × Bool) := (g.2.2.2.2.take 10).map bt
theorem and7 (x : Int) : 0 ≤ bitop .and .i64 x 7 ∧ bitop .and .i64 x 7 < 8 := by
  have : bitop .and .i64 x 7 = x % 8 := and_mask x 3 (by decide)
  omega
theorem gather {R : Type} (e0 : List Al → List (Int × Bool) → Option R) (k : Nat) (L : List Gp) (i : Int) (h0 : 0 ≤ i) (h1 : i < L.length) (s : Int) : ∀ (n kk j : Nat) (all : List Al), kk ≤ 10 → 10 - kk = n → n < j → all.length ≤ 10000 + kk →
    ∃ all' : List Al, all' = all ++ recsOf (bitop .and .i64 (gAt L i).1 7) i s ((ents (gAt L i)).drop kk) kk ∧ corbellaw19_LmapScripts_i15_1_l1 e0 k L i s j kk all ((ents (gAt L i)).take kk) = e0 all' (ents (gAt L i)) := by
  have hlen : (ents (gAt L i)).length = min 10 (gAt L i).2.2.2.2.length := by unfold ents; rw [List.length_map, List.length_take]
  have stop : ∀ kk : Nat, kk ≤ 10 → (gAt L i).2.2.2.2.length ≤ kk ∨ kk = 10 → (ents (gAt L i)).take kk = ents (gAt L i) ∧ (ents (gAt L i)).drop kk = [] := fun kk h2 h3 => ⟨List.take_of_length_le (by rw [hlen]; omega), List.drop_eq_nil_of_le (by rw [hlen]; omega)⟩
  intro n
  induction n with
  | zero =>
    intro kk j all hk hn hj ha
    obtain ⟨j, rfl⟩ : ∃ u, j = u + 1 := ⟨j - 1, by omega⟩
    obtain rfl : kk = 10 := by omega
    obtain ⟨st1, st2⟩ := stop 10 (by omega) (.inr rfl)
    refine ⟨all, by rw [st2]; exact (List.append_nil all).symm, ?_⟩
    rw [corbellaw19_LmapScripts_i15_1_l1]; unfold corbellaw19_LmapScripts_i15_1_l1s
    rw [decide_eq_true h0, cond_true, gAt_some h0 h1, optb_some, decide_eq_false (show ¬ (((10 : Nat) : Int) < 10) by omega), cond_false]
    rw [st1]
    cases decide (((10 : Nat) : Int) < lenI (gAt L i).2.2.2.2) <;> rfl
  | succ n ih =>
    intro kk j all hk hn hj ha
    obtain ⟨j, rfl⟩ : ∃ u, j = u + 1 := ⟨j - 1, by omega⟩
    by_cases hb : kk < (gAt L i).2.2.2.2.length
    · have hk' : kk < (ents (gAt L i)).length := by rw [hlen]; omega
      have hat : (ents (gAt L i))[kk] = bt (gAt L i).2.2.2.2[kk] := by unfold ents; simp
      obtain ⟨b, hbb⟩ : ∃ b, (gAt L i).2.2.2.2[kk] = b := ⟨_, rfl⟩
      rw [hbb] at hat
      have hsn : (ents (gAt L i)).take kk ++ [((bt b).1, (bt b).2)] = (ents (gAt L i)).take (kk + 1) := by
        rw [List.take_add_one, List.getElem?_eq_getElem hk', hat]; rfl
      obtain ⟨all', g1, g2⟩ := ih (kk + 1) j (all ++ [((bitop .and .i64 (gAt L i).1 7), (i, ((kk : Int), (s, ((bt b).1, (bt b).2)))))]) (by omega) (by omega) (by omega) (by rw [List.length_append, List.length_singleton]; omega)
      refine ⟨all', ?_, ?_⟩
      · rw [g1, List.drop_eq_getElem_cons hk', hat, List.append_assoc]
        rw [show ((kk + 1 : Nat) : Int) = (kk : Int) + 1 by omega]; rfl
      · rw [← g2]
        rw [corbellaw19_LmapScripts_i15_1_l1]; unfold corbellaw19_LmapScripts_i15_1_l1s
        rw [decide_eq_true h0, cond_true, gAt_some h0 h1, optb_some, lenI_eq, decide_eq_true (show (kk : Int) < ((gAt L i).2.2.2.2.length : Int) by omega), cond_true, decide_eq_true (show (kk : Int) < 10 by omega), cond_true, cond_true, optb_some, decide_eq_true (show (0 : Int) ≤ kk by omega), cond_true,
          show (kk : Int).toNat = kk from rfl, List.getElem?_eq_getElem hb, optb_some, hbb]
        have hj3 : ∀ (b : Int) (t : Bool) (e : List Al → List (Int × Bool) → Bool → List (Int × Bool) → Bool → List Al → Option R), corbellaw19_LmapScripts_i15_1_j3 e k L i kk b t all s ((ents (gAt L i)).take kk) = e (all ++ [((bitop .and .i64 (gAt L i).1 7), (i, ((kk : Int), (s, (b, t)))))]) ((ents (gAt L i)).take kk ++ [(b, t)]) false [(b, t)] false [((bitop .and .i64 (gAt L i).1 7), (i, ((kk : Int), (s, (b, t)))))] := by
          intro b t e
          unfold corbellaw19_LmapScripts_i15_1_j3
          rw [decide_eq_true (by rw [List.length_take, List.length_singleton]; omega), cond_true]
          try dsimp only
          unfold corbellaw19_LmapScripts_i15_1_j4
          rw [decide_eq_true h0, cond_true, gAt_some h0 h1, optb_some, decide_eq_true (by rw [List.length_singleton]; omega), cond_true]
        unfold corbellaw19_LmapScripts_i15_1_j2
        by_cases hneg : b < 0
        · rw [decide_eq_true hneg, cond_true]
          have e := hj3 (wrap64 ((0 : Int) - (wrap64 (b + (1 : Int))))) true (fun all_18282 g_18285 hN_18286 h_18287 hN_18288 h_18289 => (fun all_18316 g_18319 hN_18320 h_18321 hN_18322 h_18323 => corbellaw19_LmapScripts_i15_1_j5 (fun k_18345 => corbellaw19_LmapScripts_i15_1_l1 e0 k L i s j k_18345 all_18316 g_18319) k kk) all_18282 g_18285 hN_18286 h_18287 hN_18288 h_18289)
          refine e.trans ?_
          unfold corbellaw19_LmapScripts_i15_1_j5
          have hbt : bt b = (wrap64 ((0 : Int) - (wrap64 (b + (1 : Int)))), true) := if_pos hneg
          rw [hbt] at hsn ⊢
          dsimp only at hsn ⊢
          rw [w64 (n := (kk : Int) + 1) (by omega) (by omega), hsn]; rfl
        · rw [decide_eq_false hneg, cond_false]
          have e := hj3 b false (fun all_18282 g_18285 hN_18286 h_18287 hN_18288 h_18289 => (fun all_18316 g_18319 hN_18320 h_18321 hN_18322 h_18323 => corbellaw19_LmapScripts_i15_1_j5 (fun k_18345 => corbellaw19_LmapScripts_i15_1_l1 e0 k L i s j k_18345 all_18316 g_18319) k kk) all_18282 g_18285 hN_18286 h_18287 hN_18288 h_18289)
          refine e.trans ?_
          unfold corbellaw19_LmapScripts_i15_1_j5
          have hbt : bt b = (b, false) := if_neg hneg
          rw [hbt] at hsn ⊢
          dsimp only at hsn ⊢
          rw [w64 (n := (kk : Int) + 1) (by omega) (by omega), hsn]; rfl
    · obtain ⟨st1, st2⟩ := stop kk hk (.inl (by omega))
      refine ⟨all, by rw [st2]; exact (List.append_nil all).symm, ?_⟩
      rw [corbellaw19_LmapScripts_i15_1_l1]; unfold corbellaw19_LmapScripts_i15_1_l1s
      rw [decide_eq_true h0, cond_true, gAt_some h0 h1, optb_some, lenI_eq, decide_eq_false (by omega), cond_false, st1]
structure MadeOK (D : Dn) (c : Nat) (all : List Al) (i : Int) : Prop where
  ok : DOK D c
  tr : Tracks D all
  so : all.Pairwise ltA
  lt : ∀ x ∈ all, x.2.1 < i
  len : D.length ≤ all.length
theorem made {R : Type} (e0 : Int → Dn → Nat → Int → List Al → Option R) (k : Nat) (hk : 200 ≤ k) (L : List Gp) (r : R)
    (he : ∀ seq D c all i, MadeOK D c all i → all.length ≤ 600 → e0 seq D c seq all = some r) :
    ∀ (n j i : Nat) (seq : Int) (D : Dn) (c : Nat) (all : List Al), 60 - i = n → n < j → i ≤ 60 → MadeOK D c all i → all.length ≤ 10 * i →
    corbellaw19_LmapScripts_i15_1_l0 e0 k L j seq i D c seq all = some r := by
  intro n
  induction n with
  | zero =>
    intro j i seq D c all hn hj hi hD hA
    obtain ⟨j, rfl⟩ : ∃ u, j = u + 1 := ⟨j - 1, by omega⟩
    rw [corbellaw19_LmapScripts_i15_1_l0]; unfold corbellaw19_LmapScripts_i15_1_l0s
    rw [decide_eq_false (show ¬ (i : Int) < 60 by omega), cond_false, Bool.cond_self]
    exact he seq D c all i hD (by omega)
  | succ n ih =>
    intro j i seq D c all hn hj hi hD hA
    obtain ⟨j, rfl⟩ : ∃ u, j = u + 1 := ⟨j - 1, by omega⟩
    rw [corbellaw19_LmapScripts_i15_1_l0]; unfold corbellaw19_LmapScripts_i15_1_l0s
    by_cases hil : i < L.length
    · have hs := gAt_some (L := L) (q := (i : Int)) (by omega) (by omega)
      rw [lenI_eq, decide_eq_true (show (i : Int) < L.length by omega), cond_true, decide_eq_true (show (i : Int) < 60 by omega), cond_true, decide_eq_true (show (0 : Int) ≤ i by omega), cond_true, hs, optb_some]
      try dsimp only
      generalize bitop .and .i64 (gAt L i).2.2.1 1099511627775 = s
      obtain ⟨all', g1, g2⟩ := gather (fun all_18366 g_18369 =>
          bif true then
            optb (some (gAt L i)) fun x_18370 =>
            corbellaw19_LmapScripts_i20_6_l0 (fun ha_18484 hb_18485 =>
              corbellaw19_LmapScripts_i15_1_l0 e0 k L j (bif (decide (s > seq)) then s else seq) (wrap64 ((i : Int) + (1 : Int))) ha_18484 hb_18485 (bif (decide (s > seq)) then s else seq) all_18366) k (bitop .and .i64 x_18370.1 (7 : Int)) i (lenI g_18369) g_18369 s k (0 : Int) D c
          else none) k L i (by omega) (by omega) s 10 0 k all (by omega) (by omega) (by omega) (by omega)
      refine Eq.trans g2 ?_
      show corbellaw19_LmapScripts_i20_6_l0 (fun ha_18484 hb_18485 =>
              corbellaw19_LmapScripts_i15_1_l0 e0 k L j (bif (decide (s > seq)) then s else seq) (wrap64 ((i : Int) + (1 : Int))) ha_18484 hb_18485 (bif (decide (s > seq)) then s else seq) all') k (bitop .and .i64 (gAt L i).1 (7 : Int)) i (lenI (ents (gAt L i))) (ents (gAt L i)) s k (0 : Int) D c = _
      have hel : (ents (gAt L i)).length ≤ 10 := by unfold ents; rw [List.length_map, List.length_take]; omega
      have had := added (fun ha_18484 hb_18485 =>
              corbellaw19_LmapScripts_i15_1_l0 e0 k L j (bif (decide (s > seq)) then s else seq) (wrap64 ((i : Int) + (1 : Int))) ha_18484 hb_18485 (bif (decide (s > seq)) then s else seq) all') k (bitop .and .i64 (gAt L i).1 (7 : Int)) i s (ents (gAt L i)) [] k D c (by rw [List.length_nil]; omega) (by omega)
      refine Eq.trans had ?_
      have hok := addE_ok (at_ := (i : Int)) (seq := s) (and7 (gAt L i).1) (ents (gAt L i)) 0 D c hD.ok
      have htr := addE_tracks (z := bitop .and .i64 (gAt L i).1 7) (at_ := (i : Int)) (s := s) (ents (gAt L i)) 0 D c all hD.tr
      rw [List.drop_zero] at g1
      have g1 : all' = all ++ recsOf (bitop .and .i64 (gAt L i).1 7) i s (ents (gAt L i)) 0 := g1
      obtain ⟨hs1, hs2⟩ := recs_sorted (z := bitop .and .i64 (gAt L i).1 7) (at_ := (i : Int)) (s := s) (ents (gAt L i)) 0
      have hbl : all'.length = all.length + (ents (gAt L i)).length := by rw [g1, List.length_append, recs_len]
      rw [← g1] at htr
      rw [w64 (by omega) (by omega)]
      refine ih j (i + 1) _ _ _ all' (by omega) (by omega) (by omega) ⟨hok.1, htr, ?_, ?_, ?_⟩ (by omega)
      · rw [g1]
        refine List.pairwise_append.2 ⟨hD.so, hs1, fun x hx y hy => .inl ?_⟩
        have := hD.lt x hx
        have := (hs2 y hy).1
        omega
      · intro x hx
        rw [g1] at hx
        rcases List.mem_append.1 hx with hx | hx
        · have := hD.lt x hx; omega
        · have := (hs2 x hx).1; omega
      · have h1 := foldl_ins_len ((ents (gAt L i)).map (·.1)) (keysD D)
        rw [← hok.2, List.length_map] at h1
        unfold keysD at h1
        rw [List.length_map, List.length_map] at h1
        have := hD.len
        exact Nat.le_trans h1 (by omega)
    · rw [lenI_eq, decide_eq_false (show ¬ (i : Int) < L.length by omega), cond_false]
      exact he seq D c all i hD (by omega)
/-! ### the document's Newest and Live -/
def IsN (l p : List Al) (b best : Int) : Prop := (best = -1 ∧ newest p b = none) ∨ ∃ q : Nat, best = q ∧ ∃ x, l[q]? = some x ∧ newest p b = some x
theorem newest_go {R : Type} (e0 : Int → Option R) (k : Nat) (l : List Al) (hl : l.length ≤ 1000) (b : Int) : ∀ (n j i : Nat) (best : Int), l.length - i = n → n < j → i ≤ l.length → IsN l (l.take i) b best →
    ∃ best', IsN l l b best' ∧ corbelref19_Newest_l0 e0 k l b j best i = e0 best' := by
  intro n
  induction n with
  | zero =>
    intro j i best hn hj hi hb
    obtain ⟨j, rfl⟩ : ∃ u, j = u + 1 := ⟨j - 1, by omega⟩
    rw [List.take_of_length_le (by omega)] at hb
    refine ⟨best, hb, ?_⟩
    rw [corbelref19_Newest_l0]; unfold corbelref19_Newest_l0s
    rw [lenI_eq, decide_eq_false (by omega), cond_false]
  | succ n ih =>
    intro j i best hn hj hi hb
    obtain ⟨j, rfl⟩ : ∃ u, j = u + 1 := ⟨j - 1, by omega⟩
    have hi' : i < l.length := by omega
    have hx : l[i]? = some l[i] := List.getElem?_eq_getElem hi'
    have hsn : newest (l.take (i + 1)) b = stepN b (newest (l.take i) b) l[i] := by rw [List.take_add_one, hx, Option.toList_some, newest_snoc]
    have step : ∀ best1 : Int, IsN l (l.take (i + 1)) b best1 → corbelref19_Newest_l0 e0 k l b (j + 1) best i = corbelref19_Newest_l0 e0 k l b j best1 ((i + 1 : Nat) : Int) → ∃ best', IsN l l b best' ∧ corbelref19_Newest_l0 e0 k l b (j + 1) best i = e0 best' := by
      intro best1 h1 h2
      obtain ⟨best', g1, g2⟩ := ih j (i + 1) best1 (by omega) (by omega) (by omega) h1
      exact ⟨best', g1, h2.trans g2⟩
    have w1 : wrap64 ((i : Int) + 1) = ((i + 1 : Nat) : Int) := by rw [w64 (by omega) (by omega)]; omega
    by_cases hxb : l[i].2.2.2.2.1 = b
    · rcases hb with ⟨h1, h2⟩ | ⟨q, h1, y, h2, h3⟩
      · refine step i (.inr ⟨i, rfl, l[i], hx, by rw [hsn, h2]; unfold stepN; rw [if_pos hxb]⟩) ?_
        rw [corbelref19_Newest_l0]; unfold corbelref19_Newest_l0s
        rw [lenI_eq, decide_eq_true (show (i : Int) < l.length by omega), cond_true, decide_eq_true (show (0 : Int) ≤ i by omega), cond_true, show (i : Int).toNat = i from rfl, hx, optb_some, decide_eq_true hxb, cond_true, decide_eq_true (show best < 0 by omega), cond_true]
        unfold corbelref19_Newest_j1 corbelref19_Newest_k0 corbelref19_Newest_j2
        rw [cond_true, w1]
      · have hsn2 : newest (l.take (i + 1)) b = if y.2.2.2.1 ≤ l[i].2.2.2.1 then some l[i] else some y := by rw [hsn, h3]; unfold stepN; rw [if_pos hxb]
        have hgo : corbelref19_Newest_l0 e0 k l b (j + 1) best i = corbelref19_Newest_l0 e0 k l b j (if y.2.2.2.1 ≤ l[i].2.2.2.1 then (i : Int) else best) ((i + 1 : Nat) : Int) := by
          rw [corbelref19_Newest_l0]; unfold corbelref19_Newest_l0s
          rw [lenI_eq, decide_eq_true (show (i : Int) < l.length by omega), cond_true, decide_eq_true (show (0 : Int) ≤ i by omega), cond_true, show (i : Int).toNat = i from rfl, hx, optb_some, decide_eq_true hxb, cond_true, decide_eq_false (show ¬ best < 0 by omega), cond_false, cond_true, optb_some,
            decide_eq_true (show 0 ≤ best by omega), cond_true, show best.toNat = q by omega, h2, optb_some]
          unfold corbelref19_Newest_j1 corbelref19_Newest_k0 corbelref19_Newest_j2
          by_cases hs : y.2.2.2.1 ≤ l[i].2.2.2.1
          · rw [decide_eq_true hs, cond_true, if_pos hs, w1]
          · rw [decide_eq_false hs, cond_false, if_neg hs, w1]
        refine step _ ?_ hgo
        by_cases hs : y.2.2.2.1 ≤ l[i].2.2.2.1
        · rw [if_pos hs] at hsn2 ⊢
          exact .inr ⟨i, rfl, l[i], hx, hsn2⟩
        · rw [if_neg hs] at hsn2 ⊢
          exact .inr ⟨q, h1, y, h2, hsn2⟩
    · have hsn2 : newest (l.take (i + 1)) b = newest (l.take i) b := by rw [hsn]; unfold stepN; rw [if_neg hxb]
      refine step best (by unfold IsN; rw [hsn2]; exact hb) ?_
      rw [corbelref19_Newest_l0]; unfold corbelref19_Newest_l0s
      rw [lenI_eq, decide_eq_true (show (i : Int) < l.length by omega), cond_true, decide_eq_true (show (0 : Int) ≤ i by omega), cond_true, show (i : Int).toNat = i from rfl, hx, optb_some, decide_eq_false hxb, cond_false]
      unfold corbelref19_Newest_j1 corbelref19_Newest_k0 corbelref19_Newest_j2
      rw [cond_false, w1]
theorem Newest_val (k : Nat) (hk : 1500 ≤ k) (a : Bool) (l : List Al) (hl : l.length ≤ 1000) (b : Int) : ∃ best, IsN l l b best ∧ corbelref19_Newest k a l b = some best :=
  newest_go (fun best => some best) k l hl b l.length k 0 (-1) (by omega) (by omega) (by omega) (.inl ⟨rfl, rfl⟩)
theorem ltA_irr (x : Al) : ¬ ltA x x := by unfold ltA; omega
theorem pw_idx {l : List Al} (h : l.Pairwise ltA) {p q : Nat} {x : Al} (hp : l[p]? = some x) (hq : l[q]? = some x) : p = q := by
  obtain ⟨p1, p2⟩ := List.getElem?_eq_some_iff.1 hp
  obtain ⟨q1, q2⟩ := List.getElem?_eq_some_iff.1 hq
  have hh := List.pairwise_iff_getElem.1 h
  rcases Nat.lt_trichotomy p q with e | e | e
  · have := hh p q p1 q1 e; rw [p2, q2] at this; exact absurd this (ltA_irr x)
  · exact e
  · have := hh q p q1 p1 e; rw [p2, q2] at this; exact absurd this (ltA_irr x)
def qual (l : List Al) (z : Int) (x : Al) : Bool := decide (x.1 = z) && decide (newest l x.2.2.2.2.1 = some x)
theorem end_go {R : Type} (e0 : Int → Option R) (k : Nat) (l out : List Al) (i : Nat) (x : Al) (hx : l[i]? = some x) (hl : out.length ≤ 1000) (ho : ∀ y ∈ out, ltA y x) : ∀ (n j kk : Nat), out.length - kk = n → n < j → kk ≤ out.length → corbelref19_Live_l2 e0 k l out i j kk = e0 ((out.length : Nat) : Int) := by
  intro n
  induction n with
  | zero =>
    intro j kk hn hj hi
    obtain ⟨j, rfl⟩ : ∃ u, j = u + 1 := ⟨j - 1, by omega⟩
    obtain rfl : kk = out.length := by omega
    rw [corbelref19_Live_l2]; unfold corbelref19_Live_l2s
    rw [lenI_eq, decide_eq_false (by omega), cond_false]
  | succ n ih =>
    intro j kk hn hj hi
    obtain ⟨j, rfl⟩ : ∃ u, j = u + 1 := ⟨j - 1, by omega⟩
    have hk' : kk < out.length := by omega
    have hy : out[kk]? = some out[kk] := List.getElem?_eq_getElem hk'
    have hlt := ho out[kk] (List.getElem_mem hk')
    generalize out[kk] = y at hy hlt
    have w1 : wrap64 ((kk : Int) + 1) = ((kk + 1 : Nat) : Int) := by rw [w64 (by omega) (by omega)]; omega
    rw [← ih j (kk + 1) (by omega) (by omega) (by omega)]
    rw [corbelref19_Live_l2]; unfold corbelref19_Live_l2s
    rw [lenI_eq, decide_eq_true (show (kk : Int) < out.length by omega), cond_true, decide_eq_true (show (0 : Int) ≤ kk by omega), cond_true, show (kk : Int).toNat = kk from rfl, hy, optb_some, decide_eq_true (show (0 : Int) ≤ i by omega), cond_true, show (i : Int).toNat = i from rfl, hx, optb_some]
    rcases hlt with h | ⟨h1, h2⟩
    · rw [decide_eq_true h, cond_true]
      unfold corbelref19_Live_j3 corbelref19_Live_k1
      rw [w1]
    · rw [decide_eq_false (show ¬ y.2.1 < x.2.1 by omega), cond_false, cond_true, optb_some, cond_true, optb_some, decide_eq_true h1, cond_true, cond_true, optb_some, cond_true, optb_some, decide_eq_true (show y.2.2.1 ≤ x.2.2.1 by omega), cond_true]
      unfold corbelref19_Live_j3 corbelref19_Live_k1
      rw [w1]
theorem live_go {R : Type} (e0 : Bool → List Al → Option R) (k : Nat) (hk : 1500 ≤ k) (a : Bool) (l : List Al) (hl : l.length ≤ 1000) (so : l.Pairwise ltA) (z : Int) : ∀ (n j i : Nat) (oa : Bool), l.length - i = n → n < j → i ≤ l.length →
    ∃ oa', corbelref19_Live_l0 e0 k a l z j oa ((l.take i).filter (qual l z)) i = e0 oa' (l.filter (qual l z)) := by
  intro n
  induction n with
  | zero =>
    intro j i oa hn hj hi
    obtain ⟨j, rfl⟩ : ∃ u, j = u + 1 := ⟨j - 1, by omega⟩
    refine ⟨oa, ?_⟩
    rw [corbelref19_Live_l0]; unfold corbelref19_Live_l0s
    rw [lenI_eq, decide_eq_false (by omega), cond_false, List.take_of_length_le (by omega)]
  | succ n ih =>
    intro j i oa hn hj hi
    obtain ⟨j, rfl⟩ : ∃ u, j = u + 1 := ⟨j - 1, by omega⟩
    have hi' : i < l.length := by omega
    obtain ⟨x, hxx⟩ : ∃ x, l[i] = x := ⟨_, rfl⟩
    have hx : l[i]? = some x := by rw [List.getElem?_eq_getElem hi', hxx]
    have w1 : wrap64 ((i : Int) + 1) = ((i + 1 : Nat) : Int) := by rw [w64 (by omega) (by omega)]; omega
    have htk : (l.take (i + 1)).filter (qual l z) = (l.take i).filter (qual l z) ++ (if qual l z x = true then [x] else []) := by
      rw [List.take_add_one, hx, Option.toList_some, List.filter_append]
      congr 1
      rw [List.filter_cons]
      cases qual l z x <;> rfl
    have hst : corbelref19_Live_l0 e0 k a l z (j + 1) oa ((l.take i).filter (qual l z)) i = corbelref19_Live_l0s (corbelref19_Live_l0 e0 k a l z j) e0 k a l z oa ((l.take i).filter (qual l z)) i := by rw [corbelref19_Live_l0]
    rw [hst]
    unfold corbelref19_Live_l0s
    rw [lenI_eq, decide_eq_true (show (i : Int) < l.length by omega), cond_true, decide_eq_true (show (0 : Int) ≤ i by omega), cond_true, show (i : Int).toNat = i from rfl, hx, optb_some]
    by_cases hz : x.1 = z
    · rw [decide_eq_true hz, Bool.not_true, cond_false, cond_true, optb_some]
      obtain ⟨best, hb, hv⟩ := Newest_val k hk a l hl x.2.2.2.2.1
      rw [hv, optb_some]
      have hiff : best = i ↔ newest l x.2.2.2.2.1 = some x := by
        rcases hb with ⟨h1, h2⟩ | ⟨q, h1, y, h2, h3⟩
        · rw [h2]; constructor
          · intro h; omega
          · intro h; cases h
        · rw [h3, h1]
          constructor
          · intro h
            have : q = i := by omega
            subst this
            rw [← h2, hx]
          · intro h
            cases h
            have := pw_idx so h2 hx
            omega
      by_cases hbi : best = i
      · have hq : qual l z x = true := by unfold qual; rw [decide_eq_true hz, decide_eq_true (hiff.1 hbi)]; rfl
        rw [decide_eq_true hbi, Bool.not_true, cond_false]
        rw [hq, if_pos rfl] at htk
        have hol : ((l.take i).filter (qual l z)).length ≤ 1000 := Nat.le_trans (List.length_filter_le _ _) (by rw [List.length_take]; omega)
        have hob : ∀ y ∈ (l.take i).filter (qual l z), ltA y x := by
          intro y hy
          obtain ⟨p, hp⟩ := List.mem_iff_getElem?.1 (List.mem_filter.1 hy).1
          have hpi : p < i := by
            have := (List.getElem?_eq_some_iff.1 hp).1
            rw [List.length_take] at this; omega
          rw [List.getElem?_take_of_lt hpi] at hp
          obtain ⟨p1, p2⟩ := List.getElem?_eq_some_iff.1 hp
          have := List.pairwise_iff_getElem.1 so p i p1 hi' hpi
          rwa [p2, hxx] at this
        obtain ⟨oa', g⟩ := ih j (i + 1) true (by omega) (by omega) (by omega)
        refine ⟨oa', ?_⟩
        rw [← g, htk]
        generalize (l.take i).filter (qual l z) = out at hol hob
        unfold corbelref19_Live_j1
        refine Eq.trans (end_go _ k l out i x hx hol hob out.length k 0 (by omega) (by omega) (by omega)) ?_
        have hz1 : (out.drop (0 : Int).toNat).take (((out.length : Nat) : Int) - 0).toNat = out := by rw [show (0 : Int).toNat = 0 from rfl, List.drop_zero, List.take_of_length_le (by omega)]
        have hz2 : (out.drop ((out.length : Nat) : Int).toNat).take (((out.length : Nat) : Int) - ((out.length : Nat) : Int)).toNat = [] := by rw [List.drop_eq_nil_of_le (by omega), List.take_nil]
        rw [lenI_eq, decide_eq_true (show (0 : Int) ≤ ((out.length : Nat) : Int) by omega), decide_eq_true (show ((out.length : Nat) : Int) ≤ ((out.length : Nat) : Int) by omega), Bool.and_self, cond_true]
        simp only [hz1, hz2]
        rw [decide_eq_true (show out.length ≤ 1099511627776 by omega), cond_true, decide_eq_true (show (0 : Int) ≤ i by omega), cond_true, show (i : Int).toNat = i from rfl, hx, optb_some, decide_eq_true (by rw [List.length_singleton]; omega), cond_true, Bool.and_self, cond_true, decide_eq_true (by rw [List.length_append, List.length_singleton, List.length_nil]; omega), cond_true, List.append_nil]
        unfold corbelref19_Live_j4b
        rw [w1]
      · have hq : qual l z x = false := by unfold qual; rw [decide_eq_false (fun e => hbi (hiff.2 e)), Bool.and_false]
        rw [decide_eq_false hbi, Bool.not_false, cond_true]
        rw [hq, if_neg (by simp), List.append_nil] at htk
        unfold corbelref19_Live_j4 corbelref19_Live_k0
        rw [w1, ← htk]
        exact ih j (i + 1) oa (by omega) (by omega) (by omega)
    · have hq : qual l z x = false := by unfold qual; rw [decide_eq_false hz, Bool.false_and]
      rw [decide_eq_false hz, Bool.not_false, cond_true]
      rw [hq, if_neg (by simp), List.append_nil] at htk
      unfold corbelref19_Live_j4 corbelref19_Live_k0
      rw [w1, ← htk]
      exact ih j (i + 1) oa (by omega) (by omega) (by omega)
theorem Live_val (k : Nat) (hk : 1500 ≤ k) (a : Bool) (l : List Al) (hl : l.length ≤ 1000) (so : l.Pairwise ltA) (z : Int) : ∃ oa, corbelref19_Live k a l z = some (oa, l.filter (qual l z)) := by
  obtain ⟨oa, h⟩ := live_go (fun a l => some (a, l)) k hk a l hl so z l.length k 0 true (by omega) (by omega) (by omega)
  exact ⟨oa, h⟩
/-! ### what lives in a zone, sorted: the document's -/
theorem mem_get : ∀ {D : Dn} {b : Int} {v : Vn}, mget (.int .i64) D b = some v → ∃ d ∈ D, d.2 = (b, v)
  | [], _, _, h => by cases h
  | x :: r, b, v, h => by
    simp only [mget] at h
    rw [eqbi] at h
    by_cases e : b = x.2.1
    · rw [decide_eq_true e, cond_true] at h
      exact ⟨x, List.mem_cons_self .., by rw [e, ← Option.some.inj h]⟩
    · rw [decide_eq_false e, cond_false] at h
      obtain ⟨d, h1, h2⟩ := mem_get h
      exact ⟨d, List.mem_cons_of_mem _ h1, h2⟩
def wh (d : Nat × Int × Vn) : Wh := (d.2.2.1.1, (d.2.2.1.2.1, d.2.2.1.2.2))
def wr (x : Al) : Wh := (x.1, (x.2.1, x.2.2.1))
def zoned (z : Int) (d : Nat × Int × Vn) : Bool := decide (d.2.2.1.1 = z)
theorem cz_filter (z : Int) (D : Dn) : cz z D = (D.filter (zoned z)).length := List.countP_eq_length_filter
def InM (D : Dn) (z : Int) (bp : Bp) (places : List Wh) : Prop := ∀ p ∈ places, ∃ d ∈ D, d.2.2.1.1 = z ∧ wh d = p ∧ mget KW bp p = some (liveOf d)
theorem live_all2 {R : Type} (e0 : Bp → Nat → List Nat → Nat → List Wh → Option R) (k : Nat) {D : Dn} {c : Nat} (h : DOK D c) (hl : D.length ≤ 1000) (z : Int) (r : R)
    (he : ∀ bp hb seen places, places.Perm ((D.filter (zoned z)).map wh) → InM D z bp places → e0 bp hb seen c places = some r) :
    ∀ (n j : Nat) (seen : List Nat) (bp : Bp) (hb : Nat) (places : List Wh), (leftD D seen).length = n → n < j → (places ++ ((leftD D seen).filter (zoned z)).map wh).Perm ((D.filter (zoned z)).map wh) → InM D z bp places →
    corbellaw19_LmapScripts_i17_3_l0 e0 k z D c c j bp hb seen c places = some r := by
  intro n
  induction n with
  | zero =>
    intro j seen bp hb places hn hj ho hz
    obtain ⟨j, rfl⟩ : ∃ u, j = u + 1 := ⟨j - 1, by omega⟩
    rw [corbellaw19_LmapScripts_i17_3_l0]; unfold corbellaw19_LmapScripts_i17_3_l0s
    rw [guard_ok, cond_true, empty_iff, decide_eq_true hn, cond_true]
    rw [List.eq_nil_of_length_eq_zero hn, List.filter_nil, List.map_nil, List.append_nil] at ho
    exact he bp hb seen places ho hz
  | succ n ih =>
    intro j seen bp hb places hn hj ho hz
    obtain ⟨j, rfl⟩ : ∃ u, j = u + 1 := ⟨j - 1, by omega⟩
    rw [corbellaw19_LmapScripts_i17_3_l0]; unfold corbellaw19_LmapScripts_i17_3_l0s
    rw [guard_ok, cond_true, empty_iff, decide_eq_false (show ¬ (leftD D seen).length = 0 by omega), cond_false]
    refine demon_intro (by intro e; rw [e] at hn; simp at hn) fun d hd => ?_
    rw [Nat.beq_refl c]
    show optb (entryD D (seen ++ [d.1])) _ = _
    rw [entry_snoc h.born (left_mem hd), optb_some]
    have hst := ((left_step h.born hd).filter (zoned z)).map wh
    have hlen := len_step h.born hd
    have hpl : places.length ≤ 1000 := by
      have := ho.length_eq
      rw [List.length_append, List.length_map, List.length_map] at this
      have := List.length_filter_le (zoned z) D
      omega
    by_cases e : d.2.2.1.1 = z
    · rw [List.filter_cons_of_pos (show zoned z d = true from decide_eq_true e), List.map_cons] at hst
      rw [decide_eq_true e, cond_true, decide_eq_true (by rw [List.length_singleton]; omega), cond_true]
      refine ih j (seen ++ [d.1]) _ _ _ (by omega) (by omega) ?_ fun p hp => ?_
      · rw [List.append_assoc]
        exact (List.Perm.append_left places hst).symm.trans ho
      · have hput := mget_put (K := KW) rfl (d.2.2.1.1, (d.2.2.1.2.1, d.2.2.1.2.2)) p (liveOf d) hb bp
        cases hq : KW.eqb p (d.2.2.1.1, (d.2.2.1.2.1, d.2.2.1.2.2)) with
        | true =>
          rw [hq, cond_true] at hput
          exact ⟨d, left_mem hd, e, ((eqb_iff KW _ _ rfl).1 hq).symm, hput⟩
        | false =>
          rw [hq, cond_false] at hput
          rcases List.mem_append.1 hp with hp | hp
          · obtain ⟨d', g1, g2, g3, g4⟩ := hz p hp
            exact ⟨d', g1, g2, g3, hput.trans g4⟩
          · rw [List.mem_singleton.1 hp, (eqb_iff KW _ _ rfl).2 rfl] at hq; cases hq
    · rw [List.filter_cons_of_neg (show ¬ zoned z d = true by unfold zoned; rw [decide_eq_false e]; simp)] at hst
      rw [decide_eq_false e, cond_false]
      exact ih j (seen ++ [d.1]) bp hb places (by omega) (by omega) ((List.Perm.append_left places hst).symm.trans ho) hz
def ltW (p q : Wh) : Prop := p.2.1 < q.2.1 ∨ p.2.1 = q.2.1 ∧ p.2.2 < q.2.2
theorem uniq : ∀ (l1 l2 : List Wh), l1.Pairwise ltW → l2.Pairwise ltW → (∀ a, a ∈ l1 ↔ a ∈ l2) → l1 = l2
  | [], [], _, _, _ => rfl
  | [], b :: l2, _, _, h => absurd ((h b).2 (List.mem_cons_self ..)) (by simp)
  | a :: l1, [], _, _, h => absurd ((h a).1 (List.mem_cons_self ..)) (by simp)
  | a :: l1, b :: l2, h1, h2, h => by
    obtain ⟨p1, p2⟩ := List.pairwise_cons.1 h1
    obtain ⟨q1, q2⟩ := List.pairwise_cons.1 h2
    have hab : a = b := by
      rcases List.mem_cons.1 ((h a).1 (List.mem_cons_self ..)) with e | e
      · exact e
      · rcases List.mem_cons.1 ((h b).2 (List.mem_cons_self ..)) with e' | e'
        · exact e'.symm
        · have x1 := q1 a e
          have x2 := p1 b e'
          unfold ltW at x1 x2; omega
    subst hab
    congr 1
    refine uniq l1 l2 p2 q2 fun c => ⟨fun hc => ?_, fun hc => ?_⟩
    · rcases List.mem_cons.1 ((h c).1 (List.mem_cons_of_mem _ hc)) with e | e
      · subst e; have := p1 c hc; unfold ltW at this; omega
      · exact e
    · rcases List.mem_cons.1 ((h c).2 (List.mem_cons_of_mem _ hc)) with e | e
      · subst e; have := q1 c hc; unfold ltW at this; omega
      · exact e
theorem sort_sorted (l : List Wh) : (sort_lmap_Map_Live_1 l).Pairwise fun p q => ¬ ltW q p := by
  have h := (Sort.pdq_sorts (ltOf cmp3) cmp3_swo l.toArray 0 l.length (Lib.bitLen l.length) true true (Nat.zero_le _) (by simp) (Or.inl rfl))
  have h1 := h.1.1
  have h2 := h.2
  unfold sort_lmap_Map_Live_1
  generalize Sort.pdq (ltOf cmp3) l.toArray 0 l.length (Lib.bitLen l.length) true true = d at h1 h2
  have hd : d.size = l.length := by rw [h1]; simp
  rw [List.pairwise_iff_getElem]
  intro i j hi hj hij
  rw [Array.length_toList] at hi hj
  have := h2 i j (Nat.zero_le _) hij (by omega)
  rw [getElem!_pos d i hi, getElem!_pos d j hj, cmp3_lt] at this
  have := of_decide_eq_false this
  exact this
section
variable {D : Dn} {c : Nat} {all : List Al} {i : Int}
theorem MadeOK.back (m : MadeOK D c all i) {d : Nat × Int × Vn} (hd : d ∈ D) : ∃ x ∈ all, x.2.2.2.2.1 = d.2.1 ∧ newest all x.2.2.2.2.1 = some x ∧ valA x = d.2.2 := by
  have h1 : gt D d.2.1 = some d.2.2 := get_mem m.ok.keys hd
  have h2 := m.tr d.2.1
  rw [h1] at h2
  cases hn : newest all d.2.1 with
  | none => rw [hn] at h2; cases h2
  | some x =>
    rw [hn] at h2
    have hm := newest_mem hn
    exact ⟨x, hm.1, hm.2, by rw [hm.2]; exact hn, (Option.some.inj h2).symm⟩
theorem MadeOK.ent (m : MadeOK D c all i) {x : Al} (hn : newest all x.2.2.2.2.1 = some x) : ∃ d ∈ D, d.2.1 = x.2.2.2.2.1 ∧ d.2.2 = valA x := by
  have h2 := m.tr x.2.2.2.2.1
  rw [hn] at h2
  obtain ⟨d, h3, h4⟩ := mem_get (D := D) h2
  exact ⟨d, h3, by rw [h4], by rw [h4]⟩
theorem MadeOK.same (m : MadeOK D c all i) {x y : Al} (hx : x ∈ all) (hy : y ∈ all) (h1 : x.2.1 = y.2.1) (h2 : x.2.2.1 = y.2.2.1) : x = y := by
  obtain ⟨p, hp⟩ := List.mem_iff_getElem?.1 hx
  obtain ⟨q, hq⟩ := List.mem_iff_getElem?.1 hy
  obtain ⟨p1, p2⟩ := List.getElem?_eq_some_iff.1 hp
  obtain ⟨q1, q2⟩ := List.getElem?_eq_some_iff.1 hq
  have hh := List.pairwise_iff_getElem.1 m.so
  rcases Nat.lt_trichotomy p q with e | e | e
  · have := hh p q p1 q1 e; rw [p2, q2] at this; unfold ltA at this; omega
  · subst e; rw [← p2, ← q2]
  · have := hh q p q1 p1 e; rw [p2, q2] at this; unfold ltA at this; omega
theorem MadeOK.sorted (m : MadeOK D c all i) (z : Int) {places : List Wh} (hp : places.Perm ((D.filter (zoned z)).map wh)) : sort_lmap_Map_Live_1 places = (all.filter (qual all z)).map wr := by
  have hs := sort_perm places
  have hsm : ∀ p, p ∈ sort_lmap_Map_Live_1 places ↔ ∃ d ∈ D, d.2.2.1.1 = z ∧ wh d = p := by
    intro p
    rw [hs.mem_iff, hp.mem_iff, List.mem_map]
    constructor
    · rintro ⟨d, h1, h2⟩
      obtain ⟨h3, h4⟩ := List.mem_filter.1 h1
      exact ⟨d, h3, of_decide_eq_true h4, h2⟩
    · rintro ⟨d, h1, h2, h3⟩
      exact ⟨d, List.mem_filter.2 ⟨h1, decide_eq_true h2⟩, h3⟩
  have hnd : (sort_lmap_Map_Live_1 places).Nodup := by
    refine (hs.trans hp).nodup_iff.2 ?_
    have hk : D.Pairwise fun a b => a.2.1 ≠ b.2.1 := List.pairwise_map.1 m.ok.keys
    refine List.pairwise_map.2 ((List.Pairwise.sublist List.filter_sublist hk).imp_of_mem fun {a b} ha hb hab e => hab ?_)
    obtain ⟨x, x1, x2, x3, x4⟩ := m.back (List.mem_filter.1 ha).1
    obtain ⟨y, y1, y2, y3, y4⟩ := m.back (List.mem_filter.1 hb).1
    have e1 : wh a = wr x := by unfold wh; rw [← x4]; rfl
    have e2 : wh b = wr y := by unfold wh; rw [← y4]; rfl
    rw [e1, e2] at e
    have : x = y := m.same x1 y1 (congrArg (fun p : Wh => p.2.1) e) (congrArg (fun p : Wh => p.2.2) e)
    rw [← x2, ← y2, this]
  refine uniq _ _ ?_ ?_ ?_
  · have h2 := sort_sorted places
    have h3 := List.Pairwise.and h2 hnd
    refine h3.imp_of_mem fun {p q} hp hq ⟨h4, h5⟩ => ?_
    obtain ⟨d, _, d2, d3⟩ := (hsm p).1 hp
    obtain ⟨d', _, d2', d3'⟩ := (hsm q).1 hq
    have z1 : p.1 = z := by rw [← d3]; exact d2
    have z2 : q.1 = z := by rw [← d3']; exact d2'
    obtain ⟨pa, pb, pc⟩ := p
    obtain ⟨qa, qb, qc⟩ := q
    unfold ltW at h4 ⊢
    simp only at z1 z2 h4 ⊢
    have : ¬ (pb = qb ∧ pc = qc) := fun ⟨e1, e2⟩ => h5 (by rw [z1, z2, e1, e2])
    omega
  · refine List.pairwise_map.2 ?_
    exact (List.Pairwise.sublist List.filter_sublist m.so).imp fun h => h
  · intro p
    rw [hsm, List.mem_map]
    constructor
    · rintro ⟨d, h1, h2, h3⟩
      obtain ⟨x, x1, x2, x3, x4⟩ := m.back h1
      have e1 : wh d = wr x := by unfold wh; rw [← x4]; rfl
      have hz : x.1 = z := by rw [← h2, ← x4]; rfl
      exact ⟨x, List.mem_filter.2 ⟨x1, by unfold qual; rw [decide_eq_true hz, decide_eq_true x3]; rfl⟩, by rw [← e1, h3]⟩
    · rintro ⟨x, h1, h2⟩
      obtain ⟨h3, h4⟩ := List.mem_filter.1 h1
      unfold qual at h4
      rw [Bool.and_eq_true] at h4
      obtain ⟨d, d1, d2, d3⟩ := m.ent (of_decide_eq_true h4.2)
      refine ⟨d, d1, by rw [d3]; exact of_decide_eq_true h4.1, ?_⟩
      rw [← h2]; unfold wh; rw [d3]; rfl
theorem MadeOK.count (m : MadeOK D c all i) (z : Int) : cz z D = (all.filter (qual all z)).length := by
  have h := m.sorted z (List.Perm.refl _)
  have h2 := congrArg List.length h
  rw [(sort_perm _).length_eq, List.length_map, List.length_map] at h2
  rw [cz_filter, h2]
/-- What is told of what lives. -/
def toL (x : Al) : Lv := (x.2.2.2.2.1, (x.2.2.2.2.2, (x.1, (x.2.1, x.2.2.1))))
theorem MadeOK.told (m : MadeOK D c all i) (z : Int) {bp : Bp} {places : List Wh} (hp : places.Perm ((D.filter (zoned z)).map wh)) (hin : InM D z bp places) : (sort_lmap_Map_Live_1 places).map (mval KW z0 bp) = (all.filter (qual all z)).map toL := by
  have hs := m.sorted z hp
  rw [hs, List.map_map]
  refine List.map_congr_left fun x hx => ?_
  have hxp : wr x ∈ places := by
    rw [← (sort_perm places).mem_iff, hs]; exact List.mem_map_of_mem hx
  obtain ⟨d, d1, d2, d3, d4⟩ := hin _ hxp
  show mval KW z0 bp (wr x) = _
  unfold mval
  rw [d4]
  obtain ⟨y, y1, y2, y3, y4⟩ := m.back d1
  have e1 : wh d = wr y := by unfold wh; rw [← y4]; rfl
  rw [e1] at d3
  have : y = x := m.same y1 (List.mem_filter.1 hx).1 (congrArg (fun p : Wh => p.2.1) d3) (congrArg (fun p : Wh => p.2.2) d3)
  subst this
  show liveOf d = toL y
  unfold liveOf toL
  rw [← y2, ← y4]; rfl
end
section
variable {R : Type} {D : Dn} {c : Nat} {all : List Al} {i : Int}
theorem got (e0 : Bool → Option R) (e1 : Option R) (k : Nat) (hk : 1500 ≤ k) (m : MadeOK D c all i) (hl : all.length ≤ 1000) (a : Bool) (b : Int) : corbellaw19_LmapScripts_j1 e0 e1 k a all b D = e1 := by
  obtain ⟨best, hb, hv⟩ := Newest_val k hk a all hl b
  have ht := m.tr b
  unfold corbellaw19_LmapScripts_j1
  try dsimp only
  rw [hv, optb_some]
  rcases hb with ⟨h1, h2⟩ | ⟨q, h1, x, h2, h3⟩
  · rw [h2] at ht
    have ht : mget (.int .i64) D b = none := ht
    have hh : mhas (.int .i64) D b = false := by unfold mhas; rw [ht]; rfl
    have hv2 : mval (.int .i64) (Ty.zero (.pair (.pair (.int .i64) (.pair (.int .i64) (.int .i64))) (.pair (.int .i64) .bool))) D b = zn := by unfold mval; rw [ht]; rfl
    rw [hh, hv2, h1, decide_eq_false (show ¬ (0 : Int) ≤ -1 by omega)]
    show corbellaw19_LmapScripts_j3 (fun v => e0 v) e1 k all zn.2.2 (mhas (.int .i64) D b) (-1) zn.1.1 zn.1.2.1 zn.1.2.2 = e1
    rw [hh]; rfl
  · rw [h3] at ht
    have ht : mget (.int .i64) D b = some (valA x) := ht
    have hh : mhas (.int .i64) D b = true := by unfold mhas; rw [ht]; rfl
    have hv2 : mval (.int .i64) (Ty.zero (.pair (.pair (.int .i64) (.pair (.int .i64) (.int .i64))) (.pair (.int .i64) .bool))) D b = valA x := by unfold mval; rw [ht]; rfl
    rw [hh, hv2, h1, decide_eq_true (show (0 : Int) ≤ (q : Int) by omega)]
    show corbellaw19_LmapScripts_j3 (fun v => e0 v) e1 k all (valA x).2.2 (mhas (.int .i64) D b) (q : Int) (valA x).1.1 (valA x).1.2.1 (valA x).1.2.2 = e1
    rw [hh]
    unfold corbellaw19_LmapScripts_j3
    rw [cond_true, decide_eq_true (show (0 : Int) ≤ (q : Int) by omega), cond_true, show (q : Int).toNat = q from rfl, h2, optb_some, cond_true, optb_some, cond_true, optb_some]
    have e3 : (decide ((valA x).1.1 = x.1) && (decide ((valA x).1.2.1 = x.2.1) && (decide ((valA x).1.2.2 = x.2.2.1) && true))) = true := by
      rw [decide_eq_true (show (valA x).1.1 = x.1 from rfl), decide_eq_true (show (valA x).1.2.1 = x.2.1 from rfl), decide_eq_true (show (valA x).1.2.2 = x.2.2.1 from rfl)]; rfl
    have e4 : ((valA x).2.2 == x.2.2.2.2.2) = true := by show (x.2.2.2.2.2 == x.2.2.2.2.2) = true; simp
    rw [e3, Bool.not_true, cond_false, cond_true, optb_some, e4]; rfl
theorem gets (e0 : Bool → Option R) (e1 : Option R) (k : Nat) (hk : 1500 ≤ k) (m : MadeOK D c all i) (hl : all.length ≤ 1000) (a : Bool) (b : Int) : ∀ (n j : Nat) (q : Int), ((all.length : Int) - q).toNat = n → n < j → -1 ≤ q → corbellaw19_LmapScripts_l0 e0 e1 k b a all D j q = e1 := by
  intro n
  induction n with
  | zero =>
    intro j q hn hj hq
    obtain ⟨j, rfl⟩ : ∃ u, j = u + 1 := ⟨j - 1, by omega⟩
    rw [corbellaw19_LmapScripts_l0]; unfold corbellaw19_LmapScripts_l0s
    rw [lenI_eq, decide_eq_false (by omega), cond_false]
  | succ n ih =>
    intro j q hn hj hq
    obtain ⟨j, rfl⟩ : ∃ u, j = u + 1 := ⟨j - 1, by omega⟩
    have hk5 : corbellaw19_LmapScripts_k5 (corbellaw19_LmapScripts_l0 e0 e1 k b a all D j) e0 e1 k q = e1 := by
      unfold corbellaw19_LmapScripts_k5 corbellaw19_LmapScripts_j5
      rw [w64 (by omega) (by omega)]
      exact ih j (q + 1) (by omega) (by omega) (by omega)
    rw [corbellaw19_LmapScripts_l0]; unfold corbellaw19_LmapScripts_l0s
    rw [lenI_eq, decide_eq_true (show q < all.length by omega), cond_true]
    by_cases h0 : 0 ≤ q
    · rw [decide_eq_true h0, cond_true, cond_true, List.getElem?_eq_getElem (show q.toNat < all.length by omega), optb_some, got _ _ k hk m hl, hk5]
    · rw [decide_eq_false h0, cond_false, got _ _ k hk m hl, hk5]
theorem told_all (e0 : Bool → Option R) (e1 : Option R) (k : Nat) (W : List Al) (hl : W.length ≤ 1000) : ∀ (n j q : Nat), W.length - q = n → n < j → q ≤ W.length → corbellaw19_LmapScripts_l7 e0 e1 k W (W.map toL) j q = e1 := by
  intro n
  induction n with
  | zero =>
    intro j q hn hj hq
    obtain ⟨j, rfl⟩ : ∃ u, j = u + 1 := ⟨j - 1, by omega⟩
    rw [corbellaw19_LmapScripts_l7]; unfold corbellaw19_LmapScripts_l7s
    rw [lenI_eq, decide_eq_false (by omega), cond_false]
  | succ n ih =>
    intro j q hn hj hq
    obtain ⟨j, rfl⟩ : ∃ u, j = u + 1 := ⟨j - 1, by omega⟩
    have hq' : q < W.length := by omega
    obtain ⟨x, hxx⟩ : ∃ x, W[q] = x := ⟨_, rfl⟩
    have hx : W[q]? = some x := by rw [List.getElem?_eq_getElem hq', hxx]
    have hy : (W.map toL)[q]? = some (toL x) := by rw [List.getElem?_map, hx]; rfl
    rw [corbellaw19_LmapScripts_l7]; unfold corbellaw19_LmapScripts_l7s
    rw [lenI_eq, decide_eq_true (show (q : Int) < W.length by omega), cond_true, lenI_eq, List.length_map, decide_eq_true (show (0 : Int) ≤ q by omega), decide_eq_true (show (q : Int) < W.length by omega), Bool.and_self, cond_true, show (q : Int).toNat = q from rfl, hy, optb_some, cond_true, hx, optb_some, cond_true, optb_some, cond_true, optb_some, cond_true, optb_some, cond_true, optb_some]
    have e3 : (decide ((toL x).1 = x.2.2.2.2.1) && (((toL x).2.1 == x.2.2.2.2.2) && ((decide ((toL x).2.2.1 = x.1) && (decide ((toL x).2.2.2.1 = x.2.1) && (decide ((toL x).2.2.2.2 = x.2.2.1) && true))) && true))) = true := by
      rw [decide_eq_true (show (toL x).1 = x.2.2.2.2.1 from rfl), decide_eq_true (show (toL x).2.2.1 = x.1 from rfl), decide_eq_true (show (toL x).2.2.2.1 = x.2.1 from rfl), decide_eq_true (show (toL x).2.2.2.2 = x.2.2.1 from rfl), show ((toL x).2.1 == x.2.2.2.2.2) = true by show (x.2.2.2.2.2 == x.2.2.2.2.2) = true; simp]; rfl
    rw [e3, Bool.not_true, cond_false, w64 (by omega) (by omega)]
    exact ih j (q + 1) (by omega) (by omega) (by omega)
theorem counted (e0 : Bool → Option R) (e1 : Option R) (k : Nat) (hk : 1500 ≤ k) (m : MadeOK D c all i) (hl : all.length ≤ 1000) (a : Bool) (Z : Nat) (hZ : Z ≤ 1000) (out : List Int) (ho : out.length = Z) (hz : ∀ z : Nat, z < Z → out[z]? = some ((cz z D : Nat) : Int)) : ∀ (n j z : Nat), Z - z = n → n < j → z ≤ Z → corbellaw19_LmapScripts_l9 e0 e1 k Z a all out j z = e1 := by
  intro n
  induction n with
  | zero =>
    intro j z hn hj hq
    obtain ⟨j, rfl⟩ : ∃ u, j = u + 1 := ⟨j - 1, by omega⟩
    rw [corbellaw19_LmapScripts_l9]; unfold corbellaw19_LmapScripts_l9s
    rw [decide_eq_false (by omega), cond_false]
  | succ n ih =>
    intro j z hn hj hq
    obtain ⟨j, rfl⟩ : ∃ u, j = u + 1 := ⟨j - 1, by omega⟩
    obtain ⟨oa, hv⟩ := Live_val k hk a all hl m.so (z : Int)
    rw [corbellaw19_LmapScripts_l9]; unfold corbellaw19_LmapScripts_l9s
    rw [decide_eq_true (show (z : Int) < Z by omega), cond_true, lenI_eq, ho, decide_eq_false (show ¬ (Z : Int) ≤ z by omega), cond_false, decide_eq_true (show (0 : Int) ≤ z by omega), decide_eq_true (show (z : Int) < Z by omega), Bool.and_self, cond_true, show (z : Int).toNat = z from rfl, hz z (by omega), optb_some, hv, optb_some]
    try dsimp only
    rw [lenI_eq, ← m.count, decide_eq_true rfl, Bool.not_true]
    unfold corbellaw19_LmapScripts_j10
    rw [cond_false]
    unfold corbellaw19_LmapScripts_k11
    rw [w64 (by omega) (by omega)]
    exact ih j (z + 1) (by omega) (by omega) (by omega)
end
theorem LmapScripts : LmapScriptsPure := by
  intro x0 x1 (zones : Int) hx0 hx1 hx2
  obtain ⟨xa, L⟩ := x0
  obtain ⟨ata, atb⟩ := x1
  refine ⟨1700 + 300, ?_⟩
  have hsp : corbellaw19_speaks (1700 + 300) = some true := speaks19 1700
  generalize hk : 1700 + 300 = k at hsp ⊢
  unfold corbellaw19_LmapScripts
  rw [hsp, optb_some, Bool.not_true, cond_false]
  refine made _ k (by omega) L true (fun seq D c all i m hA => ?_) 60 k 0 0 [] 0 [] (by omega) (by omega) (by omega) ⟨DOK.nil, fun b => rfl, List.Pairwise.nil, (fun x hx => by cases hx), by simp⟩ (by rw [List.length_nil]; omega)
  have hDl := m.len
  refine Eq.trans (gets _ _ k (by omega) m (by omega) true ata _ k (-1) rfl (by omega) (by omega)) ?_
  refine live_all2 _ k m.ok (by omega) atb true (fun bp hb seen places hp hin => ?_) D.length k [] [] 0 [] (by rw [left_nil]) (by omega) (by rw [left_nil, List.nil_append]) (fun p hp => by cases hp)
  have hpl : places.length ≤ 1000 := by
    have h1 := hp.length_eq
    rw [List.length_map] at h1
    have h2 := List.length_filter_le (zoned atb) D
    omega
  have hsl := (sort_perm places).length_eq
  rw [decide_eq_true (show places.length ≤ 1099511627776 by omega), cond_true]
  refine Eq.trans (outs _ k bp (sort_lmap_Map_Live_1 places) (by omega) (sort_lmap_Map_Live_1 places) k 0 [] (List.drop_zero) (by omega) (by omega) rfl) ?_
  obtain ⟨oa, hv⟩ := Live_val k (by omega) true all (by omega) m.so atb
  rw [List.nil_append, m.told atb hp hin, hv, optb_some]
  have hWl : (all.filter (qual all atb)).length ≤ 1000 := Nat.le_trans (List.length_filter_le _ _) (by omega)
  try dsimp only
  rw [lenI_eq, List.length_map, lenI_eq, decide_eq_true rfl, Bool.not_true, cond_false, decide_eq_true rfl, Bool.not_true]
  unfold corbellaw19_LmapScripts_j6
  rw [cond_false]
  unfold corbellaw19_LmapScripts_k7
  refine Eq.trans (told_all _ _ k (all.filter (qual all atb)) hWl _ k 0 rfl (by omega) (by omega)) ?_
  by_cases hz : zones < 1
  · rw [decide_eq_true hz]; rfl
  · rw [decide_eq_false hz, cond_false]
    by_cases h64 : 64 < zones
    · rw [decide_eq_true h64]; rfl
    · rw [decide_eq_false h64]
      obtain ⟨Z, rfl⟩ : ∃ Z : Nat, zones = Z := ⟨zones.toNat, by omega⟩
      unfold corbellaw19_LmapScripts_i19_3_j0
      rw [cond_false, decide_eq_true (show (0 : Int) ≤ Z by omega), decide_eq_true (show (Z : Int) ≤ Z by omega), decide_eq_true (show (Z : Int) ≤ 1099511627776 by omega), Bool.and_self, Bool.and_self, cond_true]
      refine counts_Z _ k m.ok (by omega) Z (by omega) true (fun out ho hcs => ?_) D.length k [] (List.replicate ((Z : Nat) : Int).toNat (Ty.zero (.int .i64))) (by rw [left_nil]) (by omega) (by rw [List.length_replicate]; rfl) (fun z hz => ⟨0, by rw [List.getElem?_replicate, if_pos (by show z < Z; exact hz)]; rfl, by rw [left_nil]; omega⟩)
      try dsimp only
      rw [cond_false]
      unfold corbellaw19_LmapScripts_j8
      rw [cond_false]
      unfold corbellaw19_LmapScripts_k9
      refine Eq.trans (counted _ _ k (by omega) m (by omega) true Z (by omega) out ho hcs Z k 0 (by omega) (by omega) (by omega)) ?_
      rw [lenI_eq, ho, decide_eq_true rfl]
end Go.Proofs.Ytbaikphpohdmoaa.Pure
