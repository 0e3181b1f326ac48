/- The evaluator's plain operations are the model's. -/
import Derived.Test.YtibdnfknokkadaaDoorEvLoad
set_option linter.unusedVariables false
set_option linter.unusedSimpArgs false
namespace Go.Proofs.YtibdnfknokkadaaDoor.Ev
open Go Go.RowKit
variable {X : Nat → Prop}

section
variable {R : Type} {w : World} {ρ : Rho} {base : Nat} {h : List HE} {P : Program} {T : Tab}
theorem inv_int {k : IntKind} {n : Int} {v : Value} (hv : VR X w ρ h (.int k n) v) : v = .int k n := by cases hv; rfl
theorem inv_bool {b : Bool} {v : Value} (hv : VR X w ρ h (.bool b) v) : v = .bool b := by cases hv; rfl
theorem inv_str {s : ByteArray} {v : Value} (hv : VR X w ρ h (.str s) v) : v = .string s := by cases hv; rfl
theorem inv_nils {v : Value} (hv : VR X w ρ h .nils v) : v = .slice none 0 0 := by cases hv; rfl
theorem inv_lit {u v : Value} (hv : VR X w ρ h (.lit u) v) : v = u := by cases hv; rfl
theorem inv_agg {cs : List AV} {v : Value} (hv : VR X w ρ h (.agg cs) v) : ∃ vs, v = .agg vs ∧ cs.length = vs.size ∧ ∀ (i : Nat) (c : AV) (v : Value), cs[i]? = some c → vs[i]? = some v → VR X w ρ h c v := by cases hv with | agg hl hh => exact ⟨_, rfl, hl, hh⟩
theorem inv_tup {cs : List AV} {v : Value} (hv : VR X w ρ h (.tup cs) v) : ∃ vs, v = .tuple vs ∧ cs.length = vs.size ∧ ∀ (i : Nat) (c : AV) (v : Value), cs[i]? = some c → vs[i]? = some v → VR X w ρ h c v := by cases hv with | tup hl hh => exact ⟨_, rfl, hl, hh⟩
theorem inv_sl {t : Ty} {nl : Bool} {l : List t.den} {v : Value} (hv : VR X w ρ h (.sl t nl l) v) : RC (owned X ρ) w (.sl t) (nl, l) [v] := by cases hv with | sl hr => exact hr
theorem sl_form {O : Nat → Prop} {t : Ty} {x : Bool × List t.den} {v : Value} (hr : RC O w (.sl t) x [v]) : ∃ a cap, v = .slice a x.2.length cap ∧ (x.1 && x.2.isEmpty) = a.isNone ∧ x.2.length ≤ cap := by
  simp only [RC] at hr
  obtain ⟨a, cap, e, h1, h2, _⟩ := hr
  simp only [List.cons.injEq, and_true] at e
  exact ⟨a, cap, e, h1, h2⟩

/-- What an operation comes to. -/
def OpS (X : Nat → Prop) (base : Nat) (w : World) (ρ : Rho) (h : List HE) (res : Result Next) (K : AV → Upd → Option R) (r : R) : Prop :=
  ∃ av u v w', K av u = some r ∧ (res = .ok (.value v) w' ∨ (res = .ok .skip w' ∧ v = undef)) ∧ Done X base w ρ h v w' av (applyU u h)
theorem OpS.same (hh : HeapR X w ρ base h) {K : AV → Upd → Option R} {r : R} {av : AV} {v : Value} (hk : K av [] = some r) (hv : VR X w ρ h av v) : OpS X base w ρ h (.ok (.value v) w) K r :=
  ⟨av, [], v, w, hk, .inl rfl, .same hh hv⟩

theorem wr_eq (k : IntKind) (n : Int) : wr k n = k.wrap n := by
  cases k <;> first | rfl | (simp only [wr, IntKind.wrap_i64, wrap64])
def ResV (X : Nat → Prop) (w : World) (ρ : Rho) (h : List HE) (P : Program) (s : Sem Value) (K : AV → Option R) (r : R) : Prop := ∃ av v, K av = some r ∧ s.run P w = .ok v w ∧ VR X w ρ h av v
theorem resv {K : AV → Option R} {r : R} {s : Sem Value} {av : AV} {v : Value} (hk : K av = some r) (hs : s.run P w = .ok v w) (hv : VR X w ρ h av v) : ResV X w ρ h P s K r := ⟨av, v, hk, hs, hv⟩
theorem bool_of {b b' : Bool} (e : b = b') : VR X w ρ h (.bool b) (.bool b') := e ▸ .bool b
theorem int_of {k : IntKind} {a b : Int} (e : a = b) : VR X w ρ h (.int k a) (.int k b) := e ▸ .int k a
theorem beqd {α : Type} [BEq α] [LawfulBEq α] [DecidableEq α] (a b : α) : (a == b) = decide (a = b) := by by_cases h : a = b <;> simp [h]
theorem intBin_sound {op : BinOp} {k : IntKind} {a b : Int} {K : AV → Option R} {r : R} (hk : intBin op k a b K = some r) (xt : TypeId) :
    ResV X w ρ h P (binOp op xt (.int k a) (.int k b)) K r := by
  cases op with
  | add => exact resv hk (by simp only [binOp, ne_eq, not_true, if_false, Op.intArith]; rfl) (int_of (wr_eq k _))
  | sub => exact resv hk (by simp only [binOp, ne_eq, not_true, if_false, Op.intArith]; rfl) (int_of (wr_eq k _))
  | mul => exact resv hk (by simp only [binOp, ne_eq, not_true, if_false, Op.intArith]; rfl) (int_of (wr_eq k _))
  | quo =>
    simp only [intBin] at hk
    cases hb : decide (b = 0) with
    | true => rw [hb] at hk; simp at hk
    | false =>
      rw [hb] at hk
      have hb' : ¬ b = 0 := by simpa using hb
      exact resv hk (by simp only [binOp, ne_eq, not_true, if_false, Op.intDiv, hb']; rfl) (int_of (wr_eq k _))
  | rem =>
    simp only [intBin] at hk
    cases hb : decide (b = 0) with
    | true => rw [hb] at hk; simp at hk
    | false =>
      rw [hb] at hk
      have hb' : ¬ b = 0 := by simpa using hb
      exact resv hk (by simp only [binOp, ne_eq, not_true, if_false, Op.intDiv, hb']; rfl) (int_of rfl)
  | and => exact resv hk (by simp only [binOp, ne_eq, not_true, if_false, Op.intBits]; rfl) (int_of rfl)
  | or => exact resv hk (by simp only [binOp, ne_eq, not_true, if_false, Op.intBits]; rfl) (int_of rfl)
  | xor => exact resv hk (by simp only [binOp, ne_eq, not_true, if_false, Op.intBits]; rfl) (int_of rfl)
  | andNot => exact resv hk (by simp only [binOp, ne_eq, not_true, if_false, Op.intBits]; rfl) (int_of rfl)
  | eql => exact resv hk (by simp only [binOp, ne_eq, not_true, if_false, Op.intCmp]; rfl) (bool_of (beqd a b).symm)
  | neq => exact resv hk (by simp only [binOp, ne_eq, not_true, if_false, Op.intCmp]; rfl) (bool_of (by rw [bne, beqd]))
  | lss => exact resv hk (by simp only [binOp, ne_eq, not_true, if_false, Op.intCmp]; rfl) (bool_of rfl)
  | leq => exact resv hk (by simp only [binOp, ne_eq, not_true, if_false, Op.intCmp]; rfl) (bool_of rfl)
  | gtr => exact resv hk (by simp only [binOp, ne_eq, not_true, if_false, Op.intCmp]; rfl) (bool_of rfl)
  | geq => exact resv hk (by simp only [binOp, ne_eq, not_true, if_false, Op.intCmp]; rfl) (bool_of rfl)
  | shl => simp [intBin] at hk
  | shr => simp [intBin] at hk
theorem loop_toList (s : ByteArray) (n : Nat) : ∀ (i : Nat) (r : List UInt8), s.size - i = n → ByteArray.toList.loop s i r = r.reverse ++ s.data.toList.drop i := by
  induction n with
  | zero =>
    intro i r hn
    unfold ByteArray.toList.loop
    rw [if_neg (by omega), List.drop_eq_nil_of_le (by rw [Array.length_toList]; show s.size ≤ i; omega)]
    simp
  | succ n ih =>
    intro i r hn
    unfold ByteArray.toList.loop
    rw [if_pos (by omega), ih (i + 1) _ (by omega)]
    have hi : i < s.data.toList.length := by rw [Array.length_toList]; show i < s.size; omega
    rw [List.drop_eq_getElem_cons hi]
    have : s.get! i = s.data.toList[i] := by
      have hi' : i < s.data.size := by rwa [Array.length_toList] at hi
      show s.data[i]! = _
      rw [getElem!_pos s.data i hi']; simp
    rw [this]
    simp
theorem toList_data (s : ByteArray) : s.toList = s.data.toList := by
  unfold ByteArray.toList
  rw [loop_toList s _ 0 [] rfl]
  simp
theorem toList_eq (a b : ByteArray) : (a.toList == b.toList) = decide (a = b) := by
  rw [beqd]
  congr 1
  apply propext
  constructor
  · intro h
    rw [toList_data, toList_data] at h
    cases a; cases b
    simpa using h
  · intro h; rw [h]
theorem strBin_sound {op : BinOp} {a b : ByteArray} {K : AV → Option R} {r : R} (hk : strBin op a b K = some r) (xt : TypeId) :
    ResV X w ρ h P (binOp op xt (.string a) (.string b)) K r := by
  cases op with
  | add =>
    simp only [strBin] at hk
    have h2 := cond_some hk
    clear hk
    obtain ⟨hc, hk⟩ := h2
    have hc' : a.size + b.size ≤ mostS := by simpa using hc
    have hn : ¬ (((a.size + b.size : Nat) : Int) > IntKind.i64.max) := by
      have : IntKind.i64.max = 9223372036854775807 := by decide
      rw [this]
      simp only [mostS] at hc'
      omega
    refine resv hk ?_ (.str _)
    show (Op.stringOp .add a b).run P w = _
    simp only [Op.stringOp]
    rw [if_neg hn]; rfl
  | eql => exact resv hk (by show (Op.stringOp .eql a b).run P w = _; simp only [Op.stringOp]; rfl) (bool_of (toList_eq a b).symm)
  | neq => exact resv hk (by show (Op.stringOp .neq a b).run P w = _; simp only [Op.stringOp]; rfl) (bool_of (by rw [toList_eq]))
  | lss => exact resv hk (by show (Op.stringOp .lss a b).run P w = _; simp only [Op.stringOp]; rfl) (bool_of rfl)
  | leq => exact resv hk (by show (Op.stringOp .leq a b).run P w = _; simp only [Op.stringOp]; rfl) (bool_of (by rw [toList_eq]))
  | gtr => exact resv hk (by show (Op.stringOp .gtr a b).run P w = _; simp only [Op.stringOp]; rfl) (bool_of (by rw [toList_eq]))
  | geq => exact resv hk (by show (Op.stringOp .geq a b).run P w = _; simp only [Op.stringOp]; rfl) (bool_of rfl)
  | _ => simp [strBin] at hk
theorem shift_sound {op : BinOp} {k yk : IntKind} {a b : Int} {K : AV → Option R} {r : R} (hop : op = .shl ∨ op = .shr)
    (hk : (bif decide (b < 0) then none else K (.int k (match op with | .shl => shlv k a b | _ => shrv k a b))) = some r) (xt : TypeId) :
    ResV X w ρ h P (binOp op xt (.int k a) (.int yk b)) K r := by
  cases hb : decide (b < 0) with
  | true => rw [hb] at hk; simp at hk
  | false =>
    rw [hb] at hk
    have hb' : ¬ b < 0 := by simpa using hb
    rcases hop with rfl | rfl
    · exact resv hk (by show (Op.shift .shl k a yk b).run P w = _; simp only [Op.shift]; rw [if_neg hb']; rfl) (int_of rfl)
    · refine resv hk (by show (Op.shift .shr k a yk b).run P w = _; simp only [Op.shift]; rw [if_neg hb']; rfl) (int_of ?_)
      simp only [shrv]
      rw [Int.fdiv_eq_ediv_of_nonneg _ (by exact Int.le_of_lt (Int.pow_pos (by decide)))]
theorem run_equal_bool {t : TypeId} (ht : P.underlying t = some .bool) (a b : Bool) : (Op.equal t (.bool a) (.bool b)).run P w = .ok (a == b) w := by
  have key : ∀ d : Nat, (Op.equalIn (d + 1) t (.bool a) (.bool b)).run P w = .ok (a == b) w := fun d => by
    simp only [Op.equalIn, Sem.run_bind, run_underlying ht, Result.andThen_ok]
    rfl
  exact key 9999
theorem isBoolT_und (hT : TabOK P T) {t : TypeId} (hc : isBoolT T t = true) : P.underlying t = some .bool := by
  unfold isBoolT at hc
  split at hc
  · rename_i i hi
    split at hc
    · rename_i hd; rw [← hd]; exact hT.und t i hi
    · simp at hc
  · simp at hc
theorem binK_sound {op : BinOp} {t : TypeId} {x y : AV} {vx vy : Value} {K : AV → Option R} {r : R} (hx : VR X w ρ h x vx) (hy : VR X w ρ h y vy) (hT : TabOK P T) (hk : binK T h op t x y K = some r) :
    ResV X w ρ h P (binOp op t vx vy) K r := by
  unfold binK at hk
  split at hk
  · rw [inv_int hx, inv_int hy]; exact shift_sound (.inl rfl) hk t
  · rw [inv_int hx, inv_int hy]; exact shift_sound (.inr rfl) hk t
  · rename_i k a k' b _ _
    split at hk
    · rename_i e; subst e; rw [inv_int hx, inv_int hy]; exact intBin_sound hk t
    · simp at hk
  · rw [inv_str hx, inv_str hy]; exact strBin_sound hk t
  · rename_i a b
    have h2 := cond_some hk
    clear hk
    obtain ⟨hc, hk⟩ := h2
    rw [inv_bool hx, inv_bool hy]
    refine resv hk ?_ (bool_of rfl)
    have e := run_equal_bool (w := w) (isBoolT_und hT hc) a b
    simp only [binOp, Sem.run_bind, e, Result.andThen_ok, Sem.run_pure]
  · rename_i a b
    have h2 := cond_some hk
    clear hk
    obtain ⟨hc, hk⟩ := h2
    rw [inv_bool hx, inv_bool hy]
    refine resv hk ?_ (bool_of rfl)
    have e := run_equal_bool (w := w) (isBoolT_und hT hc) a b
    simp only [binOp, Sem.run_bind, e, Result.andThen_ok, Sem.run_pure]
  · simp at hk

theorem run_equal_nil (hT : TabOK P T) {t : TypeId} {x y : AV} {vx vy : Value} {b : Bool} (hh : HeapR X w ρ base h) (hx : VR X w ρ h x vx) (hy : VR X w ρ h y vy) (hb : nilCmp T t h x y = some b) :
    (Op.equal t vx vy).run P w = .ok b w := by
  have key : ∀ d : Nat, (Op.equalIn (d + 1) t vx vy).run P w = .ok b w := fun d => by
    unfold nilCmp at hb
    split at hb
    · rename_i inf hi
      have hu := hT.und t inf hi
      split at hb
      · rename_i e hd
        rw [hd] at hu
        rw [inv_nils hy]
        cases hx with
        | nils => simp only [nilSl, Option.some.injEq] at hb; subst hb; simp only [Op.equalIn, Sem.run_bind, run_underlying hu, Result.andThen_ok]; rfl
        | sl hr =>
          obtain ⟨a, cap, rfl, hn, _⟩ := sl_form hr
          simp only [nilSl, Option.some.injEq] at hb
          subst hb
          simp only at hn
          rw [hn]
          simp only [Op.equalIn, Sem.run_bind, run_underlying hu, Result.andThen_ok]
          cases a <;> rfl
        | slz hz =>
          obtain ⟨a, rfl, rfl⟩ := hz
          simp only [nilSl, Option.some.injEq] at hb
          subst hb
          simp only [Op.equalIn, Sem.run_bind, run_underlying hu, Result.andThen_ok]
          cases a <;> rfl
        | @own i g v he hg ha hs =>
          simp only [nilSl] at hb
          split at hb
          · rename_i t' ty nl g' l hi
            cases hgg : Nat.beq g g' with
            | false => rw [hgg] at hb; simp at hb
            | true =>
              obtain rfl := Nat.eq_of_beq_eq_true hgg
              rw [hgg] at hb
              simp only [cond_true, Option.some.injEq] at hb
              subst hb
              obtain ⟨r, hr, hher⟩ := hh.ent _ _ hi
              obtain rfl := Option.some.inj (hr.symm.trans (ha _ _ _ _ hi))
              cases hher with
              | lst _ how hnn _ =>
                simp only [Op.equalIn, Sem.run_bind, run_underlying hu, Result.andThen_ok]
                rcases how with ⟨h0, _, a, rfl⟩ | ⟨gg, cap, cur, ty, fz, rfl, how⟩
                · cases a with
                  | none => rw [hnn.1 rfl]; rfl
                  | some a =>
                    cases hq : (nl && l.isEmpty) with
                    | true => have := hnn.2 hq; simp at this
                    | false => rfl
                · cases hq : (nl && l.isEmpty) with
                  | true => have := hnn.2 hq; simp at this
                  | false => rfl
          · simp at hb
        | _ => simp [nilSl] at hb
      · rename_i e hd
        rw [hd] at hu
        rw [inv_lit hy]
        simp only [Op.equalIn, Sem.run_bind, run_underlying hu, Result.andThen_ok]
        cases hx with
        | ptr _ => simp only [nilPt, Option.some.injEq] at hb; subst hb; rfl
        | eptr _ _ _ => simp only [nilPt, Option.some.injEq] at hb; subst hb; rfl
        | ro _ _ _ _ => simp only [nilPt, Option.some.injEq] at hb; subst hb; rfl
        | lit _ =>
          cases vx with
          | pointer a => cases a with
            | none => simp only [nilPt, Option.some.injEq] at hb; subst hb; rfl
            | some a => simp [nilPt] at hb
          | _ => simp [nilPt] at hb
        | _ => simp [nilPt] at hb
      · rename_i p q r hd
        rw [hd] at hu
        rw [inv_lit hy]
        simp only [Op.equalIn, Sem.run_bind, run_underlying hu, Result.andThen_ok]
        cases hx with
        | fn _ _ _ _ => simp only [nilFn, Option.some.injEq] at hb; subst hb; rfl
        | lit _ =>
          cases vx with
          | nilFunc => simp only [nilFn, Option.some.injEq] at hb; subst hb; rfl
          | _ => simp [nilFn] at hb
        | _ => simp [nilFn] at hb
      · simp at hb
    · simp at hb
  exact key 9999
theorem unK_sound {op : UnOp} {x : AV} {vx : Value} {K : AV → Option R} {r : R} (hx : VR X w ρ h x vx) (hk : unK op x K = some r) : ResV X w ρ h P (Op.unary op vx) K r := by
  unfold unK at hk
  split at hk
  · rw [inv_int hx]; exact resv hk (by simp only [Op.unary, Op.intArith]; rfl) (int_of (wr_eq _ _))
  · rw [inv_int hx]; exact resv hk (by simp only [Op.unary, Op.intBits]; rfl) (int_of rfl)
  · rw [inv_bool hx]; exact resv hk rfl (bool_of rfl)
  · simp at hk
theorem pick_sound : ∀ (n q : Nat) (i : Int) (K : Nat → Option R) (r : R), pickIdx n q i K = some r → ∃ j, i = ((q + j : Nat) : Int) ∧ j < n ∧ K (q + j) = some r
  | 0, _, _, _, _, hk => by simp [pickIdx] at hk
  | n + 1, q, i, K, r, hk => by
    simp only [pickIdx] at hk
    cases hd : decide (i = (q : Int)) with
    | true =>
      rw [hd] at hk
      exact ⟨0, by simpa using hd, by omega, by simpa using hk⟩
    | false =>
      rw [hd] at hk
      obtain ⟨j, h1, h2, h3⟩ := pick_sound n (q + 1) i K r hk
      exact ⟨j + 1, by rw [h1]; omega, by omega, by rw [show q + (j + 1) = q + 1 + j by omega]; exact h3⟩
end
end Go.Proofs.YtibdnfknokkadaaDoor.Ev
