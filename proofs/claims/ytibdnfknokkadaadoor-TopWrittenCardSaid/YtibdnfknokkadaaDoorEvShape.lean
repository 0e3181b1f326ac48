/- Readers of shapes; tables of types and of functions; loops and joins told beside. -/
import Derived.Test.YtibdnfknokkadaaDoorEvFun
import Derived.KernelRfl
set_option linter.unusedVariables false
namespace Go.Proofs.YtibdnfknokkadaaDoor.Ev
open Go Go.RowKit

/-- A shape: its data, and how they are read. -/
structure Rd (α : Type) where
  den : Type
  wrt : den → α
  rd : α → Option den
  ok : ∀ a x, rd a = some x → a = wrt x
namespace Rd
def int (k : IntKind) : Rd AV := ⟨Int, .int k, fun a => match a with | .int k' n => if k' = k then some n else none | _ => none, fun a x h => by
  split at h
  · split at h
    · rename_i he; subst he; cases h; rfl
    · cases h
  · cases h⟩
def bool : Rd AV := ⟨Bool, .bool, fun a => match a with | .bool b => some b | _ => none, fun a x h => by split at h <;> cases h; rfl⟩
def str : Rd AV := ⟨ByteArray, .str, fun a => match a with | .str b => some b | _ => none, fun a x h => by split at h <;> cases h; rfl⟩
def nils : Rd AV := ⟨Unit, fun _ => .nils, fun a => match a with | .nils => some () | _ => none, fun a x h => by split at h <;> cases h; rfl⟩
def pnil : Rd AV := ⟨Unit, fun _ => .lit (.pointer none), fun a => match a with | .lit (.pointer none) => some () | _ => none, fun a x h => by split at h <;> cases h; rfl⟩
def fnil : Rd AV := ⟨Unit, fun _ => .lit .nilFunc, fun a => match a with | .lit .nilFunc => some () | _ => none, fun a x h => by split at h <;> cases h; rfl⟩
def skp : Rd AV := ⟨Unit, fun _ => .lit Go.undef, fun a => match a with | .lit v => bif isUndef v then some () else none | _ => none, fun a x h => by
  split at h
  · have := cond_some h; rw [isUndef_eq this.1]
  · cases h⟩
def junk : Rd AV := ⟨Unit, fun _ => .junk, fun a => match a with | .junk => some () | _ => none, fun a x h => by split at h <;> cases h; rfl⟩
def sl (t : Ty) : Rd AV := ⟨Bool × List t.den, fun x => .sl t x.1 x.2, fun a => match a with | .sl t' nl l => (match castL t t' l with | some l => some (nl, l) | none => none) | _ => none, fun a x h => by
  split at h
  · rename_i t' nl l
    unfold castL at h
    split at h
    · rename_i l' he
      split at he
      · rename_i e; subst e; cases he; cases h; rfl
      · cases he
    · cases h
  · cases h⟩
def slz : Rd AV := ⟨Bool, .slz, fun a => match a with | .slz b => some b | _ => none, fun a x h => by split at h <;> cases h; rfl⟩
def own (i g : Nat) : Rd AV := ⟨Unit, fun _ => .own i g, fun a => match a with | .own i' g' => if i' = i ∧ g' = g then some () else none | _ => none, fun a x h => by
  split at h
  · split at h
    · rename_i he; rw [he.1, he.2]
    · cases h
  · cases h⟩
def ptr (i o : Nat) : Rd AV := ⟨Unit, fun _ => .ptr i o, fun a => match a with | .ptr i' o' => if i' = i ∧ o' = o then some () else none | _ => none, fun a x h => by
  split at h
  · split at h
    · rename_i he; rw [he.1, he.2]
    · cases h
  · cases h⟩
def eptr (i g z o : Nat) : Rd AV := ⟨Nat, fun k => .eptr i g z k o, fun a => match a with | .eptr i' g' z' k o' => if i' = i ∧ g' = g ∧ z' = z ∧ o' = o then some k else none | _ => none, fun a x h => by
  split at h
  · split at h
    · rename_i he; obtain ⟨rfl, rfl, rfl, rfl⟩ := he; cases h; rfl
    · cases h
  · cases h⟩
def ro (t : Ty) (o : Nat) : Rd AV := ⟨t.den, fun x => .ro t x o, fun a => match a with | .ro t' x o' => if h : t' = t then (if o' = o then some (h ▸ x) else none) else none | _ => none, fun a x h => by
  split at h
  · split at h
    · rename_i e; subst e
      split at h
      · rename_i e; subst e; cases h; rfl
      · cases h
    · cases h
  · cases h⟩
def nil {α : Type} : Rd (List α) := ⟨Unit, fun _ => [], fun a => match a with | [] => some () | _ => none, fun a x h => by split at h <;> cases h; rfl⟩
def cons {α : Type} (a : Rd α) (b : Rd (List α)) : Rd (List α) := ⟨a.den × b.den, fun x => a.wrt x.1 :: b.wrt x.2, fun l => match l with
    | c :: r => (match a.rd c with | some x => (match b.rd r with | some y => some (x, y) | none => none) | none => none)
    | [] => none, fun l x h => by
  split at h
  · rename_i c r
    split at h
    · rename_i x' hx
      split at h
      · rename_i y hy; cases h; rw [a.ok _ _ hx, b.ok _ _ hy]
      · cases h
    · cases h
  · cases h⟩
def pair {α β : Type} (a : Rd α) (b : Rd β) : Rd (α × β) := ⟨a.den × b.den, fun x => (a.wrt x.1, b.wrt x.2), fun l => match a.rd l.1 with
    | some x => (match b.rd l.2 with | some y => some (x, y) | none => none)
    | none => none, fun l x h => by
  split at h
  · rename_i x' hx
    split at h
    · rename_i y hy; cases h; rw [← a.ok _ _ hx, ← b.ok _ _ hy]
    · cases h
  · cases h⟩
def agg (l : Rd (List AV)) : Rd AV := ⟨l.den, fun x => .agg (l.wrt x), fun a => match a with | .agg cs => l.rd cs | _ => none, fun a x h => by split at h; rw [l.ok _ _ h]; cases h⟩
def tup (l : Rd (List AV)) : Rd AV := ⟨l.den, fun x => .tup (l.wrt x), fun a => match a with | .tup cs => l.rd cs | _ => none, fun a x h => by split at h; rw [l.ok _ _ h]; cases h⟩
def fn (g : FuncId) (a b : Rd (List AV)) : Rd AV := ⟨a.den × b.den, fun x => .fn (.func g) (a.wrt x.1) (b.wrt x.2), fun c => match c with
    | .fn (.func g') l r => if g' = g then (match a.rd l with | some x => (match b.rd r with | some y => some (x, y) | none => none) | none => none) else none
    | _ => none, fun c x h => by
  split at h
  · split at h
    · rename_i he; subst he
      split at h
      · rename_i x' hx
        split at h
        · rename_i y hy; cases h; rw [a.ok _ _ hx, b.ok _ _ hy]
        · cases h
      · cases h
    · cases h
  · cases h⟩
def blk (l : Rd (List AV)) : Rd HE := ⟨l.den, fun x => .blk (l.wrt x), fun a => match a with | .blk cs => l.rd cs | _ => none, fun a x h => by split at h; rw [l.ok _ _ h]; cases h⟩
def lst (t : Ty) (e : TypeId) (g : Nat) : Rd HE := ⟨Bool × List t.den, fun x => .lst t e x.1 g x.2, fun a => match a with | .lst t' e' nl g' l => (if e' = e ∧ g' = g then (match castL t t' l with | some l => some (nl, l) | none => none) else none) | _ => none, fun a x h => by
  split at h
  · rename_i t' e' nl g' l
    split at h
    · rename_i he
      obtain ⟨rfl, rfl⟩ := he
      unfold castL at h
      split at h
      · rename_i l' he
        split at he
        · rename_i e; subst e; cases he; cases h; rfl
        · cases he
      · cases h
    · cases h
  · cases h⟩
def dead (g : Nat) : Rd HE := ⟨Unit, fun _ => .dead g, fun a => match a with | .dead g' => if g' = g then some () else none | _ => none, fun a x h => by
  split at h
  · split at h
    · rename_i he; rw [he]
    · cases h
  · cases h⟩
def mpv (i : Nat) : Rd AV := ⟨Unit, fun _ => .mpv i, fun a => match a with | .mpv i' => if i' = i then some () else none | _ => none, fun a x h => by
  split at h
  · split at h
    · rename_i he; rw [he]
    · cases h
  · cases h⟩
def bs (i o n c : Nat) : Rd AV := ⟨Unit, fun _ => .bs i o n c, fun a => match a with | .bs i' o' n' c' => if i' = i ∧ o' = o ∧ n' = n ∧ c' = c then some () else none | _ => none, fun a x h => by
  split at h
  · split at h
    · rename_i he; obtain ⟨e1, e2, e3, e4⟩ := he; rw [e1, e2, e3, e4]
    · cases h
  · cases h⟩
def mnil : Rd AV := ⟨Unit, fun _ => .lit (.map none), fun a => match a with | .lit (.map none) => some () | _ => none, fun a x h => by split at h <;> cases h; rfl⟩
def mp (ka ea : Bool) (K E : Ty) : Rd HE := ⟨List (Nat × K.den × E.den) × Nat, fun x => .mp ka ea K E x.1 x.2, fun a => match a with | .mp ka' ea' K' E' D c => (if ka' = ka ∧ ea' = ea then (match castD K K' E E' D with | some D => some (D, c) | none => none) else none) | _ => none, fun a x h => by
  split at h
  · split at h
    · rename_i he
      obtain ⟨rfl, rfl⟩ := he
      split at h
      · rename_i D' hD
        unfold castD at hD
        split at hD
        · rename_i e
          obtain ⟨e1, e2⟩ := e
          subst e1
          subst e2
          cases hD
          cases h
          rfl
        · cases hD
      · cases h
    · cases h
  · cases h⟩
def itr (i : Nat) : Rd HE := ⟨Nat × List Nat × Nat, fun x => .itr i x.1 x.2.1 x.2.2, fun a => match a with | .itr i' s l c => if i' = i then some (s, l, c) else none | _ => none, fun a x h => by
  split at h
  · split at h
    · rename_i he; subst he; cases h; rfl
    · cases h
  · cases h⟩
end Rd
section
variable {R : Type} {P : Program} {T : Tab} {F : PT} {C : CallK R} {O : CutK R}
def sameL : List Nat → List Nat → Bool
  | [], [] => true
  | a :: x, b :: y => bif Nat.beq a b then sameL x y else false
  | _, _ => false
theorem sameL_eq : ∀ {a b : List Nat}, sameL a b = true → a = b
  | [], [], _ => rfl
  | a :: x, b :: y, h => by
    simp only [sameL] at h
    cases hb : Nat.beq a b with
    | true => rw [hb] at h; rw [Nat.eq_of_beq_eq_true hb, sameL_eq h]
    | false => rw [hb] at h; cases h
  | [], _ :: _, h => by cases h
  | _ :: _, [], h => by cases h
/-- One way in which a loop or a join is told. -/
def told (n0 : Nat) (w0 : List Nat) (sh : Rd (List AV × List HE)) (g : sh.den → Option R) (n : Nat) (v0 : List Nat) (vals : List AV) (heap : List HE) (alt : Option R) : Option R :=
  bif Nat.beq n n0 && sameL v0 w0 then (match sh.rd (vals, heap) with | some x => g x | none => alt) else alt
theorem told_some {n0 : Nat} {w0 : List Nat} {sh : Rd (List AV × List HE)} {g : sh.den → Option R} {n : Nat} {v0 : List Nat} {vals : List AV} {heap : List HE} {alt : Option R} {r : R} (h : told n0 w0 sh g n v0 vals heap alt = some r) :
    (∃ x, n = n0 ∧ v0 = w0 ∧ vals = (sh.wrt x).1 ∧ heap = (sh.wrt x).2 ∧ g x = some r) ∨ alt = some r := by
  unfold told at h
  cases hb : (Nat.beq n n0 && sameL v0 w0) with
  | false => rw [hb] at h; exact .inr h
  | true =>
    rw [hb] at h
    rw [Bool.and_eq_true] at hb
    simp only [cond_true] at h
    split at h
    · rename_i x hx
      have := sh.ok _ _ hx
      exact .inl ⟨x, Nat.eq_of_beq_eq_true hb.1, sameL_eq hb.2, congrArg Prod.fst this, congrArg Prod.snd this, h⟩
    · exact .inr h
/-- Alternatives. -/
structure Alt (R : Type) where
  n : Nat
  v : List Nat
  sh : Rd (List AV × List HE)
  g : (EX → St → Option R) → sh.den → Option R
def alts : List (Alt R) → Nat → List Nat → List AV → List HE → (EX → St → Option R) → Option R
  | [], _, _, _, _, _ => none
  | a :: r, n, v0, vals, heap, K => told a.n a.v a.sh (a.g K) n v0 vals heap (alts r n v0 vals heap K)
def LoopAlt (T : Tab) (F : PT) (C : CallK R) (O : CutK R) (c x : Cl) (b : Code) (h : Hint) (a : Alt R) : Prop :=
  ∀ K y, ∃ k, a.g K y = iter c x (ev T F C O b h) k (mkSt a.n a.v c.keep (a.sh.wrt y).1 (a.sh.wrt y).2) K
def JoinAlt (T : Tab) (F : PT) (C : CallK R) (O : CutK R) (c x : Cl) (b : Code) (h : Hint) (a : Alt R) : Prop :=
  ∀ K y, a.g K y = ev T F C O b h (mkSt a.n a.v c.keep (a.sh.wrt y).1 (a.sh.wrt y).2) (fun e st => optb (clean x st) fun st => K e st)
universe u
def allP {α : Type u} (p : α → Prop) : List α → Prop
  | [] => True
  | a :: r => p a ∧ allP p r
theorem allP_mem {α : Type u} {p : α → Prop} : ∀ {l : List α}, allP p l → ∀ x ∈ l, p x
  | a :: r, h, x, hx => by
    rcases List.mem_cons.1 hx with rfl | hx
    · exact h.1
    · exact allP_mem h.2 x hx
theorem loop_alts {c x : Cl} {b : Code} {h : Hint} {K : EX → St → Option R} {n : Nat} {v0 : List Nat} {vals : List AV} {heap : List HE} {r : R} : ∀ {l : List (Alt R)}, allP (LoopAlt T F C O c x b h) l → alts l n v0 vals heap K = some r →
    ∃ k, iter c x (ev T F C O b h) k (mkSt n v0 c.keep vals heap) K = some r
  | [], _, hk => by cases hk
  | a :: l, hp, hk => by
    rcases told_some hk with ⟨y, rfl, rfl, rfl, rfl, hg⟩ | hk
    · obtain ⟨k, hk⟩ := hp.1 K y
      exact ⟨k, hk ▸ hg⟩
    · exact loop_alts hp.2 hk
theorem join_alts {c x : Cl} {b : Code} {h : Hint} {K : EX → St → Option R} {n : Nat} {v0 : List Nat} {vals : List AV} {heap : List HE} {r : R} : ∀ {l : List (Alt R)}, allP (JoinAlt T F C O c x b h) l → alts l n v0 vals heap K = some r →
    ev T F C O b h (mkSt n v0 c.keep vals heap) (fun e st => optb (clean x st) fun st => K e st) = some r
  | [], _, hk => by cases hk
  | a :: l, hp, hk => by
    rcases told_some hk with ⟨y, rfl, rfl, rfl, rfl, hg⟩ | hk
    · exact hp.1 K y ▸ hg
    · exact join_alts hp.2 hk
/-- What is told beside, by places. -/
def cutsO : List (List (Alt R)) → CutK R
  | [], _, _, _, _, _, _ => none
  | a :: r, i, n, v0, vals, heap, K => match i with
    | 0 => alts a n v0 vals heap K
    | i + 1 => cutsO r i n v0 vals heap K
theorem loop_ok {c x : Cl} {i : Nat} {b : Code} {h : Hint} {l : List (Alt R)} (hO : O i = alts l) (hp : allP (LoopAlt T F C O c x b h) l) : ObOK T F C O (.loop c x i b h) := fun K n v0 vals heap r hk => by
  rw [hO] at hk; exact loop_alts hp hk
theorem join_ok {c x : Cl} {i : Nat} {b : Code} {h : Hint} {l : List (Alt R)} (hO : O i = alts l) (hp : allP (JoinAlt T F C O c x b h) l) : ObOK T F C O (.join c x i b h) := fun K n v0 vals heap r hk => by
  rw [hO] at hk; exact join_alts hp hk
theorem cuts_of {fn : Func} {hi : Hint} {l : List Ob} (he : obs (bodyOf fn) hi = l) (h : allP (ObOK T F C O) l) : ∀ c, fn.body = some c → CutsOK T F C O c hi := fun c hc x hx => by
  have : bodyOf fn = c := by unfold bodyOf; rw [hc]; rfl
  rw [this] at he
  exact allP_mem h x (he ▸ hx)
theorem iter_zero {c x : Cl} {body : St → (EX → St → Option R) → Option R} {st : St} {K : EX → St → Option R} : iter c x body 0 st K = none := rfl
theorem iter_succ {c x : Cl} {body : St → (EX → St → Option R) → Option R} {k : Nat} {st : St} {K : EX → St → Option R} : iter c x body (k + 1) st K = body st fun e st => match e with
    | .normal => optb (backC c st) fun st => iter c x body k st K
    | e => optb (clean x st) fun st => K e st := rfl
/-! Tables. -/
def fcons (g : FuncId) (p : PF) (F : PT) : PT := { F with f := fun x => bif Nat.beq x g then some p else F x }
def ccons (g g' : FuncId) (p : PC) (F : PT) : PT := { F with c := fun x y => bif Nat.beq x g && Nat.beq y g' then some p else F.c x y }
def fnone : PT := { f := fun _ => none }
def memP : List (Nat × Nat) → Nat → Nat → Bool
  | [], _, _ => false
  | (a, b) :: r, x, y => bif Nat.beq a x && Nat.beq b y then true else memP r x y
/-- No functions yet; which conversions make a list, and are slices of own lists windows? -/
def fbase (cv : List (Nat × Nat)) (vw : Bool) : PT := { f := fun _ => none, cv := memP cv, vw := vw }
theorem fok_none : FOK P T fnone := ⟨fun g p h => (by cases h), fun g g' p h => (by cases h), fun g g' s h => (by cases h)⟩
theorem fok_base {cv : List (Nat × Nat)} {vw : Bool} : FOK P T (fbase cv vw) := ⟨fun g p h => (by cases h), fun g g' p h => (by cases h), fun g g' s h => (by cases h)⟩
theorem fok_cons {g : FuncId} {p : PF} (h : PFOK P T g p) (he : Ent P g) (hF : FOK P T F) : FOK P T (fcons g p F) := ⟨fun x q hx => by
  unfold fcons at hx
  cases hb : Nat.beq x g with
  | true => simp only [hb] at hx; cases hx; rw [Nat.eq_of_beq_eq_true hb]; exact ⟨h, he⟩
  | false => simp only [hb] at hx; exact hF.f x q hx, hF.c, hF.s⟩
theorem cok_cons {g g' : FuncId} {p : PC} (h : PCOK P T g g' p) (he : Ent P g) (hF : FOK P T F) : FOK P T (ccons g g' p F) := ⟨hF.f, fun x y q hx => by
  unfold ccons at hx
  cases hb : Nat.beq x g && Nat.beq y g' with
  | true =>
    simp only [hb] at hx; cases hx
    simp only [Bool.and_eq_true] at hb
    rw [Nat.eq_of_beq_eq_true hb.1, Nat.eq_of_beq_eq_true hb.2]; exact ⟨h, he⟩
  | false => simp only [hb] at hx; exact hF.c x y q hx, hF.s⟩
def scons (g g' : FuncId) (p : SF) (F : PT) : PT := { F with srt := fun x y => bif Nat.beq x g && Nat.beq y g' then some p else F.srt x y }
theorem sok_cons {g g' : FuncId} {p : SF} (h : SOK P g g' p) (he : Ent P g) (hF : FOK P T F) : FOK P T (scons g g' p F) := ⟨hF.f, hF.c, fun x y q hx => by
  unfold scons at hx
  cases hb : Nat.beq x g && Nat.beq y g' with
  | true =>
    simp only [hb] at hx; cases hx
    simp only [Bool.and_eq_true] at hb
    rw [Nat.eq_of_beq_eq_true hb.1, Nat.eq_of_beq_eq_true hb.2]; exact ⟨h, he⟩
  | false => simp only [hb] at hx; exact hF.s x y q hx⟩
def icons (g : FuncId) (m : Nat) (p : Hint × Func × (Nat → CutK R)) (I : InlT R) : InlT R := fun x y => bif Nat.beq x g && Nat.beq y m then some p else I x y
def inone : InlT R := fun _ _ => none
theorem iok_none {I : InlT R} : ∀ g m hi fn O, inone (R := R) g m = some (hi, fn, O) → P.funcs[g]? = some fn ∧ Ent P g ∧ ∀ d c, fn.body = some c → CutsOK T F (inlK T F I d) (O d) c hi := fun g m hi fn O h => by cases h
/-- A table of inlined functions, one by one: 'I' is the whole table. -/
theorem iok_cons {I : InlT R} {g : FuncId} {m : Nat} {hi : Hint} {fn : Func} {O : Nat → CutK R} {J : InlT R} (hf : P.funcs[g]? = some fn) (he : Ent P g) (ho : ∀ d c, fn.body = some c → CutsOK T F (inlK T F I d) (O d) c hi)
    (hJ : ∀ g m hi fn O, J g m = some (hi, fn, O) → P.funcs[g]? = some fn ∧ Ent P g ∧ ∀ d c, fn.body = some c → CutsOK T F (inlK T F I d) (O d) c hi) :
    ∀ g' m' hi' fn' O', icons g m (hi, fn, O) J g' m' = some (hi', fn', O') → P.funcs[g']? = some fn' ∧ Ent P g' ∧ ∀ d c, fn'.body = some c → CutsOK T F (inlK T F I d) (O' d) c hi' := fun x y hi' fn' O' hx => by
  unfold icons at hx
  cases hb : (Nat.beq x g && Nat.beq y m) with
  | true =>
    rw [hb] at hx; cases hx
    rw [Bool.and_eq_true] at hb
    rw [Nat.eq_of_beq_eq_true hb.1]; exact ⟨hf, he, ho⟩
  | false => rw [hb] at hx; exact hJ x y _ _ _ hx
theorem plainO {fn : Func} {hi : Hint} {I : InlT R} {O : Nat → CutK R} (ho : obs (bodyOf fn) hi = []) : ∀ d c, fn.body = some c → CutsOK T F (inlK T F I d) (O d) c hi := fun d => cuts_of ho trivial
/-- Told from a depth on. -/
def deepO (n : Nat) (O : CutK R) (d : Nat) : CutK R := fun i m v0 vals heap K => bif Nat.ble n d then O i m v0 vals heap K else none
theorem deep_ob {C : CallK R} {O : CutK R} {n d : Nat} {x : Ob} (h : n ≤ d → ObOK T F C (deepO n O d) x) : ObOK T F C (deepO n O d) x := by
  by_cases hd : n ≤ d
  · exact h hd
  · have hf : Nat.ble n d = false := by
      cases hb : Nat.ble n d with
      | false => rfl
      | true => exact (hd (Nat.le_of_ble_eq_true hb)).elim
    cases x <;> intro K m v0 vals heap r hk <;> simp [deepO, hf] at hk
def tcons (t : TypeId) (i : Inf) (T : Tab) : Tab := { T with ty := fun x => bif Nat.beq x t then some i else T x }
def tnone : Tab := ⟨fun _ => none, fun _ => none⟩
/-- A variable that nothing writes to. -/
def gcons (g : Nat) (t : Ty) (x : t.den) (T : Tab) : Tab := { T with gl := fun y => bif Nat.beq y g then some ⟨t, x⟩ else T.gl y }
theorem tab_gl {g : Nat} {t : Ty} {x : t.den} (hT : TabOK P T) : TabOK P (gcons g t x T) := ⟨hT.und, hT.info, hT.zsize, hT.one, hT.ty, hT.eqs⟩
def Ty.zcells : Ty → List Value
  | .int k => [.int k 0]
  | .bool => [.bool false]
  | .str => [.string .empty]
  | .sl _ => [.slice none 0 0]
  | .pair a b => a.zcells ++ b.zcells
theorem RC_zero {O : Nat → Prop} {w : World} : ∀ τ : Ty, RC O w τ τ.zero τ.zcells
  | .int _ => rfl
  | .bool => rfl
  | .str => rfl
  | .sl _ => ⟨none, 0, rfl, rfl, Nat.le_refl _, fun _ => rfl, fun i y hy => by simp [Ty.zero] at hy⟩
  | .pair a b => ⟨_, _, rfl, RC_zero a, RC_zero b⟩
theorem tab_none : TabOK P tnone := ⟨(fun _ _ h => by cases h), (fun _ _ h => by cases h), (fun _ _ h => by cases h), (fun _ _ h => by cases h), (fun _ _ _ h => by cases h), (fun _ _ h => by cases h)⟩
def tyOK (i : Inf) : Bool := match i.ty with | some τ => Nat.beq τ.size i.size | none => true
def tyZ (i : Inf) : List Value := match i.ty with | some τ => τ.zcells | none => i.zero.cells.toList
def eqsOK (P : Program) (t : TypeId) (i : Inf) : Bool := bif i.eqs then !P.stoodInHeld t && !P.eqGuardType P.depth t && (match i.desc with | .struct fs => fs.toList.all (fun f => !(f.name == "_")) | _ => true) else true
theorem tab_cons {t : TypeId} {i : Inf} {j : TypeInfo} (h1 : P.underlying t = some i.desc) (h2 : P.info? t = some j) (h3 : j.size = i.size) (h4 : j.bytes = i.bytes) (h5 : j.zero = some i.zero) (h6 : i.zero.cells.size = i.size)
    (h7 : (isAggD i.desc || Nat.beq i.size 1) = true) (h8 : tyOK i = true) (h9 : i.zero.cells.toList = tyZ i) (h10 : eqsOK P t i = true) (hT : TabOK P T) : TabOK P (tcons t i T) := by
  have key : ∀ x k, tcons t i T x = some k → (x = t ∧ k = i) ∨ T x = some k := fun x k hx => by
    have hx : (bif Nat.beq x t then some i else T x) = some k := hx
    cases hb : Nat.beq x t with
    | true => rw [hb] at hx; cases hx; exact .inl ⟨Nat.eq_of_beq_eq_true hb, rfl⟩
    | false => rw [hb] at hx; exact .inr hx
  refine ⟨fun x k hx => ?_, fun x k hx => ?_, fun x k hx => ?_, fun x k hx hd => ?_, fun x k τ hx hτ => ?_, fun x k hx he => ?_⟩
  · rcases key x k hx with ⟨rfl, rfl⟩ | hx
    · exact h1
    · exact hT.und _ _ hx
  · rcases key x k hx with ⟨rfl, rfl⟩ | hx
    · exact ⟨j, h2, h3, h4, h5⟩
    · exact hT.info _ _ hx
  · rcases key x k hx with ⟨rfl, rfl⟩ | hx
    · exact h6
    · exact hT.zsize _ _ hx
  · rcases key x k hx with ⟨rfl, rfl⟩ | hx
    · rw [hd] at h7; exact Nat.eq_of_beq_eq_true h7
    · exact hT.one _ _ hx hd
  · rcases key x k hx with ⟨rfl, rfl⟩ | hx
    · unfold tyOK at h8; rw [hτ] at h8
      unfold tyZ at h9; rw [hτ] at h9
      exact ⟨Nat.eq_of_beq_eq_true h8, fun O w => h9 ▸ RC_zero τ⟩
    · exact hT.ty _ _ _ hx hτ
  · rcases key x k hx with ⟨rfl, rfl⟩ | hx
    · unfold eqsOK at h10
      rw [he] at h10
      simp only [cond_true, Bool.and_eq_true, Bool.not_eq_true'] at h10
      refine ⟨h10.1.1, h10.1.2, fun fs hd f hf => ?_⟩
      have h11 := h10.2
      rw [hd] at h11
      have h12 := List.all_eq_true.1 h11 f hf
      simpa using h12
    · exact hT.eqs _ _ hx he
def inf (t u : TypeInfo) (z : Value) (ty : Option Ty) (eqs : Bool) : Inf := { desc := u.desc, size := t.size, bytes := t.bytes, zero := z, ty := ty, eqs := eqs }
end
end Go.Proofs.YtibdnfknokkadaaDoor.Ev
