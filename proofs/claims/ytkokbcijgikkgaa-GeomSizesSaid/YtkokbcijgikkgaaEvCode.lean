/- Code: what the evaluator says of a body is what the model does. -/
import Derived.Test.YtkokbcijgikkgaaEvOpK
import Derived.LoopN
set_option linter.unusedVariables false
set_option linter.unusedSimpArgs false
namespace Go.Proofs.Ytkokbcijgikkgaa.Ev
open Go Go.RowKit
variable {X : Nat → Prop}

/-- A call of it enters it. -/
def Ent (P : Program) (g : FuncId) : Prop := ∀ args (w : World), (callFunc g args).run P w = .ok (.enter g args) w
def unflatV : List (Bool × Nat) → List Value → List Value
  | [], _ => []
  | (true, n) :: r, cs => .agg (cs.take n).toArray :: unflatV r (cs.drop n)
  | (false, _) :: r, cs => match cs with
    | c :: cs => c :: unflatV r cs
    | [] => []
def shapeV : List (Bool × Nat) → List Value → List Value → Prop
  | [], cells, vs => cells = [] ∧ vs = []
  | (true, n) :: r, cells, vs => ∃ cs vs', vs = .agg cs :: vs' ∧ cs.size = n ∧ cells.take n = cs.toList ∧ shapeV r (cells.drop n) vs'
  | (false, _) :: r, cells, vs => ∃ v cells' vs', cells = v :: cells' ∧ vs = v :: vs' ∧ shapeV r cells' vs'
def oneOrTupV : List Value → Value
  | [v] => v
  | vs => .tuple vs.toArray
/-- What a function takes, in memory. -/
def RCP (O : Nat → Prop) (w : World) (p : PF) (x : p.τ.den) (cells : List Value) : Prop := match p.ps with
  | [] => True
  | _ => RC O w p.τ x cells
/-- A function makes of plain data what its telling says. -/
def PFOK (P : Program) (g : FuncId) (p : PF) : Prop := ∀ (x : p.τ.den) (y : p.σ.den), p.f x = some y → ∀ (O : Nat → Prop) (w : World) (vs : Array Value) (cells : List Value),
  (∀ b, O b → b < w.heap.size) → RCP O w p x cells → shapeV p.ps cells vs.toList →
    Calls P g vs w fun e w' => ∃ cs, e = .returned (oneOrTupV (unflatV p.rs cs)) ∧ RC O w' p.σ y cs ∧ Below w.heap.size w w'

section
variable {R : Type} {w : World} {ρ : Rho} {base : Nat} {h : List HE} {P : Program} {T : Tab} {F : PT}
def flatsV : List Value → List Value
  | [] => []
  | v :: r => v.cells.toList ++ flatsV r
theorem flats_sound : ∀ (ps : List (Bool × Nat)) {args : List AV} {vs : List Value}, allOK (flats args) = true → fits ps args = true → VRs X w ρ h args vs → VRs X w ρ h (flats args) (flatsV vs) ∧ shapeV ps (flatsV vs) vs
  | [], args, vs, ho, hf, hv => by
    cases args with
    | nil =>
      have : vs = [] := List.eq_nil_of_length_eq_zero (by simpa using hv.1.symm)
      subst this
      exact ⟨.nil _ _ _, rfl, rfl⟩
    | cons => simp [fits] at hf
  | (true, n) :: r, args, vs, ho, hf, hv => by
    cases args with
    | nil => simp [fits] at hf
    | cons a args =>
      obtain ⟨v, vs', rfl, ha, hr⟩ := hv.uncons
      cases a with
      | agg cs =>
        simp only [fits] at hf
        have hlen : Nat.beq cs.length n = true ∧ fits r args = true := by
          cases hb : Nat.beq cs.length n <;> rw [hb] at hf <;> simp at hf
          exact ⟨rfl, hf⟩
        have hn := Nat.eq_of_beq_eq_true hlen.1
        have ho' : allOK cs = true ∧ allOK (flats args) = true := allOK_append (by simpa [flats, AV.flat] using ho)
        obtain ⟨h1, h2⟩ := flats_sound r ho'.2 hlen.2 hr
        obtain ⟨us, rfl, hl, hh⟩ := inv_agg ha
        refine ⟨VRs.append (c1 := cs) ⟨by simpa [Value.cells] using hl, fun i c v hc hv => hh i c v hc (by simpa [Value.cells] using hv)⟩ h1, us, vs', rfl, by omega, ?_, ?_⟩
        · simp only [flatsV, Value.cells]
          rw [List.take_append_of_le_length (by simp; omega), List.take_of_length_le (by simp; omega)]
        · simp only [flatsV, Value.cells]
          rw [List.drop_append, List.drop_eq_nil_of_le (by simp; omega), List.nil_append]
          have : n - us.toList.length = 0 := by simp; omega
          rw [this, List.drop_zero]
          exact h2
      | _ => simp [fits] at hf
  | (false, n) :: r, args, vs, ho, hf, hv => by
    cases args with
    | nil => simp [fits] at hf
    | cons a args =>
      obtain ⟨v, vs', rfl, ha, hr⟩ := hv.uncons
      have hna : ∀ cs, a ≠ .agg cs := fun cs e => by subst e; simp [fits] at hf
      have hfl : a.flat = [a] := by cases a <;> first | rfl | exact absurd rfl (hna _)
      have hf' : fits r args = true := by cases a <;> first | exact hf | exact absurd rfl (hna _)
      have ho' : allOK [a] = true ∧ allOK (flats args) = true := allOK_append (by rw [← hfl]; exact ho)
      have hc : cellOK a = true := allOK_mem ho'.1 a (by simp)
      obtain ⟨h1, h2⟩ := flats_sound r ho'.2 hf' hr
      obtain ⟨_, hcell⟩ := cell_one hc ha
      refine ⟨?_, v, flatsV vs', vs', by simp [flatsV, hcell], rfl, h2⟩
      simp only [flats, flatsV, hfl, hcell]
      exact VRs.append (.cons ha (.nil _ _ _)) h1
theorem unflat_sound : ∀ (rs : List (Bool × Nat)) {cs : List AV} {vs : List Value}, VRs X w ρ h cs vs → VRs X w ρ h (unflat rs cs) (unflatV rs vs)
  | [], _, _, _ => .nil _ _ _
  | (true, n) :: r, cs, vs, hv => .cons (.agg (by simp [hv.1]) (fun i c v hc hv' => (hv.take n).2 i c v hc (by simpa using hv'))) (unflat_sound r (hv.drop n))
  | (false, n) :: r, cs, vs, hv => by
    cases cs with
    | nil =>
      have : vs = [] := List.eq_nil_of_length_eq_zero (by simpa using hv.1.symm)
      subst this
      exact .nil _ _ _
    | cons c cs =>
      obtain ⟨v, vs', rfl, h1, h2⟩ := hv.uncons
      exact .cons h1 (unflat_sound r h2)
theorem oneOrTup_sound {cs : List AV} {vs : List Value} (hv : VRs X w ρ h cs vs) : VR X w ρ h (oneOrTup cs) (oneOrTupV vs) := by
  match cs, vs, hv with
  | [], [], hv => exact .tup rfl (by simp)
  | [c], [v], hv => exact hv.2 0 c v rfl rfl
  | c :: c' :: cs, v :: v' :: vs, hv => exact .tup (by simpa using hv.1) (fun i c v hc hv' => hv.2 i c v hc (by simpa using hv'))
  | [], _ :: _, hv => exact absurd hv.1 (by simp)
  | _ :: _, [], hv => exact absurd hv.1 (by simp)
  | [_], _ :: _ :: _, hv => exact absurd hv.1 (by simp)
  | _ :: _ :: _, [_], hv => exact absurd hv.1 (by simp)
theorem RC_noSl {O O' : Nat → Prop} : ∀ (t : Ty) (x : t.den) (c : List Value), t.noSl = true → RC O w t x c → RC O' w t x c
  | .int _, _, _, _, h => h
  | .bool, _, _, _, h => h
  | .str, _, _, _, h => h
  | .sl _, _, _, hn, _ => by simp [Ty.noSl] at hn
  | .pair a b, x, _, hn, h => by
    simp only [Ty.noSl, Bool.and_eq_true] at hn
    simp only [RC] at h ⊢
    obtain ⟨c1, c2, e, h1, h2⟩ := h
    exact ⟨c1, c2, e, RC_noSl a _ _ hn.1 h1, RC_noSl b _ _ hn.2 h2⟩
theorem closeP_sound (hh : HeapR X w ρ base h) {O' : Nat → Prop} (ho : ∀ b, O' b → owned X ρ b) {p : PF} {cs : List AV} {x : p.τ.den} {vs : List Value}
    (hc : p.closeP h cs = some x) (hk : ∀ i g, AV.own i g ∈ cs → ∀ r n, ρ[i]? = some r → r.block = some n → ¬ O' n) (hv : VRs X w ρ h cs vs) : RCP O' w p x vs := by
  unfold PF.closeP at hc
  unfold RCP
  split
  · trivial
  · split at hc
    · rename_i h1 _ h2; exact (h1 h2).elim
    · exact (closeAll_sound hh ho hc hk hv).1
theorem closeP_now {p : PF} {cs : List AV} {x : p.τ.den} (hc : p.closeP h cs = some x) : ∀ i g, AV.own i g ∈ cs → Now h i g := by
  unfold PF.closeP at hc
  split at hc
  · split at hc
    · intro i g hm; cases hm
    · cases hc
  · exact closeAll_now hc
theorem pure_sound {g : FuncId} {p : PF} (hp : PFOK P g p) (hh : HeapR X w ρ base h) (hb : base ≤ w.heap.size) {args : List AV} {vs : Array Value} {K : OK R} {r : R} (hv : VRs X w ρ h args vs.toList) (hk : pureK p args h K = some r) :
    Calls P g vs w fun e w' => ∃ v av u, e = .returned v ∧ K av u = some r ∧ Done X base w ρ h v w' av (applyU u h) := by
  unfold pureK at hk
  have h2 := cond_some hk
  clear hk
  obtain ⟨hc, hk⟩ := h2
  rw [Bool.and_eq_true] at hc
  obtain ⟨hfl, hsh⟩ := flats_sound p.ps hc.2 hc.1 hv
  split at hk
  · rename_i x hx
    cases hn : p.σ.noSl with
    | true =>
      rw [hn] at hk
      simp only [cond_true] at hk
      obtain ⟨y, hy, hk⟩ := optb_some hk
      have hrc := closeP_sound hh (O' := fun _ => False) (fun _ h => h.elim) hx (fun _ _ _ _ _ _ _ h => h) hfl
      refine (hp x y hy (fun _ => False) w vs _ (fun _ h => h.elim) hrc hsh).mono ?_
      rintro e w' ⟨cs, rfl, hr, hbel⟩
      obtain ⟨hh', f⟩ := HeapR_same hh hbel.size hbel.block
      exact ⟨_, _, [], rfl, hk, ⟨ρ, hh', oneOrTup_sound (unflat_sound p.rs (RC_cells p.σ y cs (RC_noSl _ _ _ hn hr))), f, hbel.mono hb⟩⟩
    | false =>
      rw [hn] at hk
      simp only [cond_false] at hk
      obtain ⟨y, hy, hk⟩ := optb_some hk
      obtain ⟨ρ1, hh1, f1, hsame, hd⟩ := freeze_sound (flats args) hh hb (closeP_now hx)
      have hno := freeze_no hh (fun i hi => (hsame i hi).1) hd
      have hlt : ∀ b, owned X ρ1 b → b < w.heap.size := fun b ho => by
        rcases ho with hX | ⟨r, hrm, hrn⟩
        · have := hh.ext b hX; omega
        · obtain ⟨j, hj⟩ := List.mem_iff_getElem?.1 hrm
          exact (hh1.lo j r b hj hrn).2
      have hrc := closeP_sound hh (O' := owned X ρ1) (fun b ho => f1.own b (hlt b ho) ho) hx hno hfl
      refine (hp x y hy (owned X ρ1) w vs _ hlt hrc hsh).mono ?_
      rintro e w' ⟨cs, rfl, hr, hbel⟩
      obtain ⟨hh', f⟩ := HeapR_same hh1 hbel.size hbel.block
      exact ⟨_, _, _, rfl, hk, ⟨ρ1, hh', oneOrTup_sound (unflat_sound p.rs (RC_cells p.σ y cs hr)), f1.trans f, hbel.mono hb⟩⟩
  · simp at hk
end
end Go.Proofs.Ytkokbcijgikkgaa.Ev
