/- An evaluator of Go code on plain data: what a function computes, told without memory. Definitions alone. -/
import Derived.Laws.OwnMore
import Derived.Orders
import Derived.Below
import Derived.OpenShut
set_option linter.unusedVariables false
namespace Go.Proofs.YtibdnfknokkadaaDoor.Ev
open Go Go.RowKit

/-- As 'Below'; and no draw is taken back. (One of the two is used throughout, by the seat.) -/
structure BelowD (B : Nat) (w w' : World) : Prop where
  below : Go.RowKit.Below B w w'
  drawn : w.drawn ≤ w'.drawn
theorem BelowD.refl (B : Nat) (w : World) : BelowD B w w := ⟨.refl _ _, Nat.le_refl _⟩
theorem BelowD.trans {B : Nat} {a b c : World} (h : BelowD B a b) (k : BelowD B b c) : BelowD B a c := ⟨h.below.trans k.below, Nat.le_trans h.drawn k.drawn⟩
theorem BelowD.mono {B B' : Nat} {w w' : World} (h : BelowD B w w') (hB : B' ≤ B) : BelowD B' w w' := ⟨h.below.mono hB, h.drawn⟩
theorem BelowD.drew {B : Nat} {a w : World} (h : BelowD B a w) : BelowD B a w.drew := ⟨h.below.drew, Nat.le_trans h.drawn (Nat.le_add_right _ 1)⟩
theorem BelowD.alloc {B : Nat} {a w : World} (h : BelowD B a w) (hB : B ≤ w.heap.size) (o : Obj) : BelowD B a (w.alloc o) := ⟨h.below.alloc hB o, h.drawn⟩
theorem BelowD.size {B : Nat} {w w' : World} (h : BelowD B w w') : w.heap.size ≤ w'.heap.size := h.below.size
theorem BelowD.block {B : Nat} {w w' : World} (h : BelowD B w w') : ∀ k, k < B → w'.heap[k]? = w.heap[k]? := h.below.block
theorem of_Below {B : Nat} {w w' : World} (h1 : w'.os = w.os) (h2 : w'.tape = w.tape) (h3 : w'.output = w.output) (h4 : w.heap.size ≤ w'.heap.size) (h5 : ∀ k, k < B → w'.heap[k]? = w.heap[k]?) (h6 : w.drawn ≤ w'.drawn) : Go.RowKit.Below B w w' := ⟨h1, h2, h3, h4, h5⟩
theorem of_BelowD {B : Nat} {w w' : World} (h1 : w'.os = w.os) (h2 : w'.tape = w.tape) (h3 : w'.output = w.output) (h4 : w.heap.size ≤ w'.heap.size) (h5 : ∀ k, k < B → w'.heap[k]? = w.heap[k]?) (h6 : w.drawn ≤ w'.drawn) : BelowD B w w' := ⟨⟨h1, h2, h3, h4, h5⟩, h6⟩
theorem to_Below {B : Nat} {w w' : World} (h : Go.RowKit.Below B w w') : Go.RowKit.Below B w w' := h
theorem to_BelowD {B : Nat} {w w' : World} (h : BelowD B w w') : Go.RowKit.Below B w w' := h.below
theorem viewStore_drawn (p : Program) (w : World) (at_ : Addr) (u : TypeId) (k : Addr) (v : Value) (b : Bool) (r : World × List Addr) (h : w.viewStore p at_ u k v b = .ok r) : r.1.drawn = w.drawn := by
  unfold World.viewStore at h
  simp only [bind, Except.bind, pure, Except.pure] at h
  repeat' split at h
  all_goals first | (cases h; rfl) | (cases h)
theorem farStore_drawn (p : Program) (w : World) (a : Addr) (v : Value) (b : Bool) (r : World × List Addr) (h : w.farStore p a v b = .ok r) : r.1.drawn = w.drawn := by
  unfold World.farStore at h
  split at h
  · split at h
    · rename_i h1; cases h; exact viewStore_drawn _ _ _ _ _ _ _ _ h1
    · cases h
  · cases h
theorem ask_drawn {α : Type} : ∀ (a : Ask α) (w : World), w.drawn ≤ (w.ask a).2.drawn := by
  intro a
  induction a with
  | done a => intro w; exact Nat.le_refl _
  | ask what range k ih =>
    intro w
    unfold World.ask
    simp only
    split
    · exact ih _ _
    · exact Nat.le_trans (Nat.le_add_right w.drawn 1) (ih _ { w with drawn := w.drawn + 1 })
theorem sys_drawn (w : World) (c : Sys) : w.drawn ≤ (w.sys c).2.drawn := by
  have := ask_drawn (Kernel.perform c w.os) w
  unfold World.sys
  split
  · exact Nat.le_refl _
  · rename_i h; rw [h] at this; exact this
/-- No operation takes a draw back. -/
theorem run_drawn {P : Program} {α : Type} (s : Sem α) : ∀ {w w' : World} {v : α}, s.run P w = .ok v w' → w.drawn ≤ w'.drawn := by
  induction s with
  | pure a => intro w w' v h; simp only [Sem.run, Result.ok.injEq] at h; rw [h.2]; exact Nat.le_refl _
  | load m a k ih =>
    intro w w' v h
    simp only [Sem.run] at h
    split at h
    · exact ih _ h
    · split at h
      · exact ih _ h
      · cases h
  | store m a v k ih =>
    intro w w' v' h
    cases v <;> simp only [Sem.run] at h <;> first
      | (cases h; done)
      | (split at h
         · split at h
           · cases h
           · rename_i hc _; exact ih (w := w.setCell a _) h
         · split at h
           · rename_i h1
             have := farStore_drawn _ _ _ _ _ _ h1
             rw [← this]; exact ih h
           · cases h)
  | new o k ih => intro w w' v h; exact ih _ (w := { w with heap := w.heap.push o }) h
  | shape r k ih => intro w w' v h; exact ih _ h
  | freeze a n k ih =>
    intro w w' v h
    refine Nat.le_trans ?_ (ih (w := w.freeze a n) h)
    unfold World.freeze
    split <;> exact Nat.le_refl _
  | frozen a k ih => intro w w' v h; exact ih _ h
  | getObj r k ih =>
    intro w w' v h
    simp only [Sem.run] at h
    split at h
    · cases h
    · exact ih _ h
    · cases h
  | setObj r o k ih =>
    intro w w' v h
    simp only [Sem.run] at h
    split at h
    · cases h
    · exact ih (w := { w with heap := w.heap.setIfInBounds r o }) h
    · cases h
  | choose q k ih =>
    intro w w' v h
    simp only [Sem.run] at h
    split at h
    · exact ih _ h
    · exact Nat.le_trans (Nat.le_add_right _ 1) (ih _ (w := { w with drawn := w.drawn + 1 }) h)
  | sys c k ih => intro w w' v h; exact Nat.le_trans (sys_drawn w c) (ih _ h)
  | program k ih => intro w w' v h; exact ih _ h
  | mark m k ih => intro w w' v h; exact ih h
  | halt h => intro w w' v h; cases h
/-- The types of data that stand by themselves. -/
inductive Ty where
  | int (k : IntKind) | bool | str | sl (t : Ty) | pair (a b : Ty)
  deriving DecidableEq
abbrev Ty.den : Ty → Type
  | .int _ => Int
  | .bool => Bool
  | .str => ByteArray
  | .sl t => Bool × List t.den
  | .pair a b => a.den × b.den
def Ty.size : Ty → Nat
  | .pair a b => a.size + b.size
  | _ => 1
def Ty.zero : (t : Ty) → t.den
  | .int _ => (0 : Int)
  | .bool => false
  | .str => ByteArray.empty
  | .sl t => (true, ([] : List t.den))
  | .pair a b => (a.zero, b.zero)

/-- Rows that come of a string's bytes bear a mark: their entries' types stand from here on. -/
def MARK : Nat := 1099511627776
/-- Values, told without memory: 'own', 'ptr', 'eptr' lead to what is held beside (HE). -/
inductive AV where
  | int (k : IntKind) (n : Int)
  | bool (b : Bool)
  | str (s : ByteArray)
  | nils
  | lit (v : Value)
  | sl (t : Ty) (nl : Bool) (l : List t.den)
  | slz (nl : Bool)
  | own (i g : Nat)
  | ptr (i off : Nat)
  | eptr (i g sz k off : Nat)
  | ro (t : Ty) (x : t.den) (off : Nat)
  | agg (cs : List AV)
  | tup (vs : List AV)
  | fn (f : Fn) (first capt : List AV)
  | junk
  | vw (i g sz : Nat) (k n : Int)
  | mpv (i : Nat)
  | bs (i off n cap : Nat)

/-- What is held: a variable's cells; a list of its own; nothing any more. -/
inductive HE where
  | blk (cs : List AV)
  | lst (t : Ty) (e : TypeId) (nl : Bool) (g : Nat) (l : List t.den)
  | dead (g : Nat)
  | mp (ka ea : Bool) (K E : Ty) (D : List (Nat × K.den × E.den)) (clk : Nat)
  | itr (i since : Nat) (seen : List Nat) (last : Nat)
def HE.ver : HE → Nat
  | .blk _ => 1
  | .mp _ _ _ _ _ _ => 1
  | .itr _ _ _ _ => 1
  | .lst _ _ _ g _ => g
  | .dead g => g

def Ty.cells : (t : Ty) → t.den → List AV
  | .int k, n => [.int k n]
  | .bool, b => [.bool b]
  | .str, s => [.str s]
  | .sl t, x => [.sl t x.1 x.2]
  | .pair a b, x => a.cells x.1 ++ b.cells x.2

def optb {α β : Type} : Option α → (α → Option β) → Option β
  | none, _ => none
  | some x, K => K x

def castL (t t' : Ty) (l : List t'.den) : Option (List t.den) := if h : t' = t then some (h ▸ l) else none
def closeSl (t : Ty) (h : List HE) : AV → Option (Bool × List t.den)
  | .sl t' nl l => match castL t t' l with | some l => some (nl, l) | none => none
  | .nils => some (true, [])
  | .slz nl => some (nl, [])
  | .own i g => match h[i]? with
    | some (.lst t' _ nl g' l) => bif Nat.beq g g' then (match castL t t' l with | some l => some (nl, l) | none => none) else none
    | _ => none
  | _ => none
/-- Cells as data; what is left of the cells. -/
def Ty.close : (t : Ty) → List HE → List AV → Option (t.den × List AV)
  | .int k, _, .int k' n :: r => if k' = k then some (n, r) else none
  | .bool, _, .bool b :: r => some (b, r)
  | .str, _, .str s :: r => some (s, r)
  | .sl t, h, c :: r => match closeSl t h c with | some x => some (x, r) | none => none
  | .pair a b, h, cs => match a.close h cs with
    | some (x, r) => match b.close h r with
      | some (y, r) => some ((x, y), r)
      | none => none
    | none => none
  | _, _, _ => none
def Ty.closeAll (t : Ty) (h : List HE) (cs : List AV) : Option t.den := match t.close h cs with
  | some (x, []) => some x
  | _ => none

def AV.flat : AV → List AV
  | .agg cs => cs
  | c => [c]

/-- A type of the program, as far as the evaluator knows it. -/
structure Inf where
  desc : TypeDesc
  size : Nat
  bytes : Nat
  zero : Value
  ty : Option Ty
  eqs : Bool := false
structure Tab where
  ty : TypeId → Option Inf
  gl : Nat → Option ((t : Ty) × t.den)
instance : CoeFun Tab (fun _ => TypeId → Option Inf) := ⟨Tab.ty⟩
def isAggD : TypeDesc → Bool
  | .struct _ | .array _ _ => true
  | _ => false

def ofCell : Value → AV
  | .int k n => .int k n
  | .bool b => .bool b
  | .string s => .str s
  | .slice none 0 0 => .nils
  | .func f a b => .junk
  | .agg _ => .junk
  | .tuple _ => .junk
  | .slice _ _ _ => .junk
  | v => .lit v
def ofVal : Value → AV
  | .agg cs => .agg (cs.toList.map ofCell)
  | v => ofCell v

/-- What a slot holds whose operation was passed over. -/
def skv : AV := .lit undef
def isUndef : Value → Bool
  | .tuple vs => Nat.beq vs.size 0
  | _ => false
def look : List (Nat × AV) → Nat → AV
  | [], _ => .junk
  | (i, v) :: r, j => bif Nat.beq i j then v else look r j
/-- A variable of the program that nothing writes to: its data. -/
def glv (T : Tab) (g : Nat) : AV := match T.gl g with | some x => .ro x.1 x.2 0 | none => .junk
def opv (T : Tab) (env : List (Nat × AV)) : Operand → AV
  | .tmp t => look env t
  | .const v => ofVal v
  | .global g => glv T g
  | .func f => .fn (.func f) [] []

/-! Ids. -/
def AV.idOf : AV → List Nat
  | .own i _ => [i]
  | .ptr i _ => [i]
  | .eptr i _ _ _ _ => [i]
  | .fn _ [] [.ptr i _] => [i]
  | .vw i _ _ _ _ => [i]
  | .mpv i => [i]
  | .bs i _ _ _ => [i]
  | _ => []
def idsOf : List AV → List Nat
  | [] => []
  | c :: r => c.idOf ++ idsOf r
def memN (ks : List Nat) (i : Nat) : Bool := match ks with | [] => false | k :: r => bif Nat.beq k i then true else memN r i
abbrev Upd := List (Nat × HE)
def applyU : Upd → List HE → List HE
  | [], h => h
  | (i, e) :: r, h => applyU r (h.set i e)
/-- The lists of its own that a row of cells names: they are given up. -/
def freeze : List AV → Upd
  | [] => []
  | .own i g :: r => (i, .dead (g + 1)) :: freeze r
  | _ :: r => freeze r
/-! Arithmetic. -/
def wr : IntKind → Int → Int
  | .i64, n => wrap64 n
  | k, n => k.wrap n
def bitop (op : BinOp) (k : IntKind) (x y : Int) : Int :=
  let a := BitVec.ofInt k.bits x
  let b := BitVec.ofInt k.bits y
  match op with
  | .and => k.wrap (a &&& b).toNat
  | .or => k.wrap (a ||| b).toNat
  | .xor => k.wrap (a ^^^ b).toNat
  | _ => k.wrap (a &&& ~~~b).toNat
def shlv (k : IntKind) (x y : Int) : Int := k.wrap (x * 2 ^ min y.toNat k.bits)
def shrv (k : IntKind) (x y : Int) : Int := x / 2 ^ min y.toNat k.bits
def bt (s : ByteArray) (i : Int) : Int := if h : i.toNat < s.size then ((s[i.toNat]'h).toNat : Int) else 0
/-- Lengths, in a form that stays as it is while the list is not known. -/
def lenI {α : Type} : List α → Int
  | [] => 0
  | _ :: r => lenI r + 1
theorem lenI_eq {α : Type} : ∀ l : List α, lenI l = (l.length : Int)
  | [] => rfl
  | _ :: r => by simp [lenI, lenI_eq r]
def sizeI (s : ByteArray) : Int := lenI s.data.toList
theorem sizeI_eq (s : ByteArray) : sizeI s = (s.size : Int) := by simp [sizeI, lenI_eq]
def bytesOf (l : List Int) : ByteArray := ⟨(l.map fun n => UInt8.ofNat n.toNat).toArray⟩
def intsOf (s : ByteArray) : List Int := s.data.toList.map fun b => (b.toNat : Int)
def sameCell : AV → AV → Option Bool
  | .int k a, .int k' b => if k = k' then some (decide (a = b)) else none
  | .bool a, .bool b => some (a == b)
  | .str a, .str b => some (decide (a = b))
  | _, _ => none
def sameCells : List AV → List AV → Option Bool
  | [], [] => some true
  | [a], [b] => sameCell a b
  | a :: x, b :: y => match sameCell a b, sameCells x y with | some p, some q => some (p && q) | _, _ => none
  | _, _ => none

/-! Operations. Each hands on: its value, what is held then, the ids that have no other name any more. -/
section
variable {R : Type}
def cellOK : AV → Bool
  | .int _ _ => true
  | .bool _ => true
  | .str _ => true
  | .nils => true
  | .sl _ _ _ => true
  | .slz _ => true
  | .own _ _ => true
  | .ptr _ _ => true
  | .eptr _ _ _ _ _ => true
  | .ro _ _ _ => true
  | .fn _ _ _ => true
  | .lit (.pointer _) => true
  | .lit .nilFunc => true
  | .lit (.map _) => true
  | .mpv _ => true
  | .bs _ _ _ _ => true
  | _ => false
/-- Cells as a value of a type. -/
def partK (i : Inf) (cs : List AV) (K : AV → Option R) : Option R :=
  bif isAggD i.desc then (bif Nat.ble i.size cs.length then K (.agg (cs.take i.size)) else none)
  else match cs with
    | c :: _ => K c
    | [] => none
/-- The cells behind a pointer. -/
def behindK (h : List HE) (p : AV) (K : List AV → Option R) : Option R := match p with
  | .ptr id off => match h[id]? with
    | some (.blk cs) => K (cs.drop off)
    | _ => none
  | .eptr id g sz k off => match h[id]? with
    | some (.lst t _ _ g' l) => bif Nat.beq t.size sz && Nat.beq g g' then optb l[k]? fun x => K ((t.cells x).drop off) else none
    | _ => none
  | .ro t x off => K ((t.cells x).drop off)
  | _ => none
def allOK : List AV → Bool
  | [] => true
  | c :: r => bif cellOK c then allOK r else false
def storeK (h : List HE) (p : AV) (vs : List AV) (K : AV → Upd → Option R) : Option R := match p with
  | .ptr id off => match h[id]? with
    | some (.blk cs) => bif Nat.ble (off + vs.length) cs.length && allOK vs then K .junk [(id, .blk (cs.take off ++ vs ++ cs.drop (off + vs.length)))] else none
    | _ => none
  | .eptr id g sz k off => match h[id]? with
    | some (.lst t e nl g' l) => bif Nat.beq t.size sz && Nat.beq g g' && allOK vs && Nat.ble (off + vs.length) sz && !memN (idsOf vs) id then
        optb l[k]? fun x => optb (t.closeAll h ((t.cells x).take off ++ vs ++ (t.cells x).drop (off + vs.length))) fun x' =>
          K .junk (freeze vs ++ [(id, .lst t e nl g (l.set k x'))])
      else none
    | _ => none
  | _ => none
def pickIdx : (n q : Nat) → Int → (Nat → Option R) → Option R
  | 0, _, _, _ => none
  | n + 1, q, i, K => bif decide (i = (q : Int)) then K q else pickIdx n (q + 1) i K
def fieldOf (T : Tab) (s : TypeId) (f : Nat) : Option (Nat × Inf) := match T s with
  | some i => match i.desc with
    | .struct fs => match fs[f]? with
      | some fd => match T fd.type with
        | some j => some (fd.offset, j)
        | none => none
      | none => none
    | _ => none
  | none => none
def elemInf (T : Tab) (t : TypeId) : Option (TypeId × Inf × Ty) := match T t with
  | some i => match i.desc with
    | .slice e => match T e with
      | some j => match j.ty with
        | some τ => bif Nat.beq τ.size j.size && Nat.ble 1 j.size && Nat.ble j.bytes 128 && Nat.blt e MARK then some (e, j, τ) else none
        | none => none
      | none => none
    | _ => none
  | none => none
def most : Nat := 1099511627776
def mostS : Nat := 4611686018427387904
def intBin (op : BinOp) (k : IntKind) (a b : Int) (K : AV → Option R) : Option R := match op with
  | .add => K (.int k (wr k (a + b)))
  | .sub => K (.int k (wr k (a - b)))
  | .mul => K (.int k (wr k (a * b)))
  | .quo => bif decide (b = 0) then none else K (.int k (wr k (a.tdiv b)))
  | .rem => bif decide (b = 0) then none else K (.int k (a.tmod b))
  | .and | .or | .xor | .andNot => K (.int k (bitop op k a b))
  | .eql => K (.bool (decide (a = b)))
  | .neq => K (.bool (!decide (a = b)))
  | .lss => K (.bool (decide (a < b)))
  | .leq => K (.bool (decide (a ≤ b)))
  | .gtr => K (.bool (decide (b < a)))
  | .geq => K (.bool (decide (b ≤ a)))
  | _ => none
def strBin (op : BinOp) (a b : ByteArray) (K : AV → Option R) : Option R := match op with
  | .add => bif decide (a.size + b.size ≤ mostS) then K (.str (a ++ b)) else none
  | .eql => K (.bool (decide (a = b)))
  | .neq => K (.bool (!decide (a = b)))
  | .lss => K (.bool (Op.bytesLess a.toList b.toList))
  | .leq => K (.bool (Op.bytesLess a.toList b.toList || decide (a = b)))
  | .gtr => K (.bool (!(Op.bytesLess a.toList b.toList || decide (a = b))))
  | .geq => K (.bool (!Op.bytesLess a.toList b.toList))
  | _ => none
/-- Is it nil? -/
def nilSl (h : List HE) : AV → Option Bool
  | .nils => some true
  | .sl _ nl l => some (nl && l.isEmpty)
  | .slz nl => some nl
  | .own i g => match h[i]? with
    | some (.lst _ _ nl g' l) => bif Nat.beq g g' then some (nl && l.isEmpty) else none
    | _ => none
  | _ => none
def nilPt : AV → Option Bool
  | .ptr _ _ => some false
  | .eptr _ _ _ _ _ => some false
  | .ro _ _ _ => some false
  | .lit (.pointer none) => some true
  | _ => none
def nilFn : AV → Option Bool
  | .fn _ _ _ => some false
  | .lit .nilFunc => some true
  | _ => none
def nilCmp (T : Tab) (t : TypeId) (h : List HE) (x y : AV) : Option Bool := match T t with
  | some i => match i.desc, y with
    | .slice _, .nils => nilSl h x
    | .pointer _, .lit (.pointer none) => nilPt x
    | .func _ _ _, .lit .nilFunc => nilFn x
    | _, _ => none
  | none => none
/-! '==' of structs and arrays, part by part. -/
def eqFs (T : Tab) (f : TypeId → AV → AV → Option Bool) (cs ds : List AV) : List Field → Option Bool
  | [] => some true
  | fd :: r => match T fd.type with
    | some j => match partK j (cs.drop fd.offset) some, partK j (ds.drop fd.offset) some with
      | some a, some b => match f fd.type a b, eqFs T f cs ds r with
        | some p, some q => some (p && q)
        | _, _ => none
      | _, _ => none
    | none => none
def eqEs (j : Inf) (f : AV → AV → Option Bool) (cs ds : List AV) : List Nat → Option Bool
  | [] => some true
  | i :: r => match partK j (cs.drop (i * j.size)) some, partK j (ds.drop (i * j.size)) some with
    | some a, some b => match f a b, eqEs j f cs ds r with
      | some p, some q => some (p && q)
      | _, _ => none
    | _, _ => none
def eqV (T : Tab) : Nat → TypeId → AV → AV → Option Bool
  | 0, _, _, _ => none
  | d + 1, t, x, y => match T t with
    | some i => (match i.desc, x, y with
      | .bool, .bool a, .bool b => some (a == b)
      | .int _, .int k a, .int k' b => if k = k' then some (decide (a = b)) else none
      | .string, .str a, .str b => some (decide (a = b))
      | .struct fs, .agg cs, .agg ds => bif i.eqs then eqFs T (eqV T d) cs ds fs.toList else none
      | .array n e, .agg cs, .agg ds => bif i.eqs then (match T e with | some j => eqEs j (eqV T d e) cs ds (List.range n) | none => none) else none
      | _, _, _ => none)
    | none => none
def eqsT (T : Tab) (t : TypeId) : Bool := match T t with | some i => i.eqs | none => false
def eqCmp (T : Tab) (t : TypeId) (h : List HE) (x y : AV) : Option Bool := match x, y with
  | .agg cs, .agg ds => bif eqsT T t then eqV T 8 t (.agg cs) (.agg ds) else none
  | x, y => nilCmp T t h x y
def isBoolT (T : Tab) (t : TypeId) : Bool := match T t with
  | some i => match i.desc with | .bool => true | _ => false
  | none => false
def binK (T : Tab) (h : List HE) (op : BinOp) (t : TypeId) (x y : AV) (K : AV → Option R) : Option R := match op, x, y with
  | .shl, .int k a, .int _ b => bif decide (b < 0) then none else K (.int k (shlv k a b))
  | .shr, .int k a, .int _ b => bif decide (b < 0) then none else K (.int k (shrv k a b))
  | op, .int k a, .int k' b => if k = k' then intBin op k a b K else none
  | op, .str a, .str b => strBin op a b K
  | .eql, .bool a, .bool b => bif isBoolT T t then K (.bool (a == b)) else none
  | .neq, .bool a, .bool b => bif isBoolT T t then K (.bool (!(a == b))) else none
  | _, _, _ => none
def unK (op : UnOp) (x : AV) (K : AV → Option R) : Option R := match op, x with
  | .neg, .int k n => K (.int k (wr k (0 - n)))
  | .xor, .int k n => K (.int k (bitop .xor k (if k.signed then -1 else k.max) n))
  | .not, .bool b => K (.bool !b)
  | _, _ => none
end

section
variable {R : Type}
abbrev OK (R : Type) := AV → Upd → Option R
def fresh (h : List HE) (i : Nat) : Bool := match h[i]? with | some (.dead 0) => true | _ => false
def spliceAll : List (Nat × Nat × AV) → List AV → Option (List AV)
  | [], cs => some cs
  | (off, sz, v) :: r, cs => bif Nat.beq v.flat.length sz && Nat.ble (off + sz) cs.length && allOK v.flat then spliceAll r (cs.take off ++ v.flat ++ cs.drop (off + sz)) else none
def fieldsOK (T : Tab) : TypeDesc → Bool
  | .struct fs => fs.toList.all fun f => (T f.type).isSome
  | .array _ e => (T e).isSome
  | _ => false
def partsOf (T : Tab) (i : Inf) (ρ : Operand → AV) : List (Nat × Operand) → Option (List (Nat × Nat × AV))
  | [] => some []
  | (j, x) :: r => match i.desc with
    | .struct fs => match fs[j]? with
      | some fd => match T fd.type with
        | some k => match partsOf T i ρ r with
          | some r => some ((fd.offset, k.size, ρ x) :: r)
          | none => none
        | none => none
      | none => none
    | .array n e => match T e with
      | some k => match partsOf T i ρ r with
        | some r => some ((j * k.size, k.size, ρ x) :: r)
        | none => none
      | none => none
    | _ => none
/-- The elements of a literal, from i on. -/
def litL (τ : Ty) (h : List HE) (ρ : Operand → AV) : List (Nat × Operand) → (i : Nat) → Option (List τ.den)
  | [], _ => some []
  | (j, x) :: r, i => bif Nat.beq j i && allOK (ρ x).flat then (match τ.closeAll h (ρ x).flat with
    | some y => match litL τ h ρ r (i + 1) with
      | some l => some (y :: l)
      | none => none
    | none => none) else none
def litCells (ρ : Operand → AV) : List (Nat × Operand) → List AV
  | [] => []
  | (_, x) :: r => (ρ x).flat ++ litCells ρ r
def asI : Option AV → Int → Option Int
  | none, d => some d
  | some (.int _ n), _ => some n
  | _, _ => none
def lenSl (h : List HE) (x : AV) (K : AV → Option R) : Option R := match x with
  | .nils => K (.int .i64 0)
  | .sl _ _ l => K (.int .i64 (lenI l))
  | .slz _ => K (.int .i64 0)
  | .bs _ _ n _ => K (.int .i64 (n : Int))
  | .own i g => match h[i]? with
    | some (.lst _ _ _ g' l) => bif Nat.beq g g' then K (.int .i64 (lenI l)) else none
    | _ => none
  | _ => none
def addrAdd (x : AV) (n : Nat) (K : AV → Option R) : Option R := match x with
  | .ptr i o => K (.ptr i (o + n))
  | .eptr i g z k o => K (.eptr i g z k (o + n))
  | .ro t x o => K (.ro t x (o + n))
  | _ => none
def fieldAddrK (T : Tab) (s : TypeId) (f : Nat) (x : AV) (K : AV → Option R) : Option R := match fieldOf T s f with
  | some (off, j) => bif Nat.beq j.size 0 then none else addrAdd x off K
  | none => none
def fieldK (T : Tab) (s : TypeId) (f : Nat) (x : AV) (K : AV → Option R) : Option R := match fieldOf T s f, x with
  | some (off, j), .agg cs => partK j (cs.drop off) K
  | _, _ => none
def convertK (T : Tab) (h : List HE) (s d : TypeId) (x : AV) (K : AV → Option R) : Option R := match T s, T d, x with
  | some i, some j, .int k n => (match j.desc with | .int k' => K (.int k' (wr k' n)) | _ => none)
  | some i, some j, .str s => (match i.desc, j.desc with | .string, .string => K (.str s) | _, _ => none)
  | some i, some j, x => (match i.desc, j.desc with
    | .slice e, .string => (match T e with
      | some k => (match k.desc, closeSl (.int .u8) h x with | .int .u8, some y => K (.str (bytesOf y.2)) | _, _ => none)
      | none => none)
    | _, _ => none)
  | _, _, _ => none
def lenT (h : List HE) (d : TypeDesc) (x : AV) (K : AV → Option R) : Option R := match d with
  | .array n _ => K (.int .i64 (n : Int))
  | .slice _ => lenSl h x K
  | .string => (match x with | .str s => K (.int .i64 (sizeI s)) | _ => none)
  | _ => none
/-- A slice's elements, told as data, or through a window. -/
def srcSl (t : Ty) (h : List HE) (x : AV) : Option (List t.den) := match x with
  | .vw i g z k n => match h[i]? with
    | some (.lst t' _ _ g' l) => bif Nat.beq g g' && Nat.beq t'.size z then (match castL t t' l with | some l => some ((l.drop k.toNat).take n.toNat) | none => none) else none
    | _ => none
  | x => match closeSl t h x with | some y => some y.2 | none => none
def appendK (T : Tab) (h : List HE) (nid : Nat) (t : TypeId) (s x : AV) (K : OK R) : Option R := match elemInf T t with
  | some (e, j, τ) => match srcSl τ h x with
    | some y => match s with
      | .nils => bif fresh h nid && decide (y.length ≤ most) then K (.own nid 1) [(nid, .lst τ e true 1 y)] else none
      | .slz nl => bif fresh h nid && decide (y.length ≤ most) then K (.own nid 1) [(nid, .lst τ e nl 1 y)] else none
      | .own i g => match h[i]? with
        | some (.lst τ' e' nl g' l) => match castL τ τ' l with
          | some l => bif Nat.beq e e' && Nat.beq g g' then (bif decide (l.length + y.length ≤ most) then K (.own i (g + 1)) [(i, .lst τ e nl (g + 1) (l ++ y))] else none) else none
          | none => none
        | _ => none
      | _ => none
    | none => none
  | none => none
def minmax (lt : Int → Int → Bool) : AV → List AV → Option AV
  | x, [] => some x
  | .int k a, .int k' b :: r => if k = k' then minmax lt (.int k (bif lt b a then b else a)) r else none
  | _, _ => none
def builtinK (T : Tab) (h : List HE) (nid : Nat) (b : Builtin) (ats : Array TypeId) (args : List AV) (K : OK R) : Option R := match b, args with
  | .len, [x] => match (match ats[0]? with | some t => T t | none => none) with
    | some i => lenT h i.desc x fun v => K v []
    | none => none
  | .append, [s, x] => match ats[0]?, ats[1]? with
    | some t, some t' => bif Nat.beq t t' && Nat.beq ats.size 2 then appendK T h nid t s x K else none
    | _, _ => none
  | .min, x :: r => match minmax (fun b a => decide (b < a)) x r with | some v => K v [] | none => none
  | .max, x :: r => match minmax (fun b a => decide (b > a)) x r with | some v => K v [] | none => none
  | _, _ => none
def sliceK (T : Tab) (h : List HE) (t : TypeId) (x : AV) (lo hi mx : Option AV) (K : OK R) : Option R := match T t, mx with
  | some i, some (.int _ m) => match i.desc, nilSl h x, asI lo 0, asI hi 0 with
    | .slice e, some nl, some l, some u => bif decide (m = 0) && decide (u = 0) && decide (l = 0) && hi.isSome && (T e).isSome then K (.slz nl) [] else none
    | _, _, _, _ => none
  | some i, none => match i.desc, x with
    | .string, .str s => match asI lo 0, asI hi (sizeI s) with
      | some l, some u => bif decide (0 ≤ l) && decide (l ≤ u) && decide (u ≤ (sizeI s)) then K (.str (s.extract l.toNat u.toNat)) [] else none
      | _, _ => none
    | .slice e, .sl τ nl l => match asI lo 0, asI hi (lenI l) with
      | some a, some u => match T e with
        | some k => bif Nat.beq τ.size k.size && decide (0 ≤ a) && decide (a ≤ u) && decide (u ≤ (lenI l)) then K (.sl τ (nl && l.isEmpty) ((l.drop a.toNat).take (u - a).toNat)) [] else none
        | none => none
      | _, _ => none
    | .slice e, .own id g => match h[id]? with
      | some (.lst τ _ nl g' l) => match asI lo 0, asI hi (lenI l) with
        | some a, some u => match T e with
          | some k => bif Nat.beq τ.size k.size && Nat.beq g g' && decide (0 ≤ a) && decide (a ≤ u) && decide (u ≤ (lenI l)) then K (.sl τ (nl && l.isEmpty) ((l.drop a.toNat).take (u - a).toNat)) [(id, .dead (g + 1))] else none
          | none => none
        | _, _ => none
      | _ => none
    | _, _ => none
  | _, _ => none
/-- A slice over a variable of its own: its elements' cells. -/
def rowL (sz : Nat) (A : Operand → AV) : List (Nat × Operand) → Nat → Option (List AV)
  | [], _ => some []
  | (j, x) :: r, i => bif Nat.beq j i && Nat.beq (A x).flat.length sz && allOK (A x).flat then (match rowL sz A r (i + 1) with | some l => some ((A x).flat ++ l) | none => none) else none
def elemRow (T : Tab) (t : TypeId) : Option (TypeId × Inf) := match T t with
  | some i => (match i.desc with
    | .slice e => (match T e with | some j => some (e, j) | none => none)
    | _ => none)
  | none => none
def opK (T : Tab) (o : Op) (ρ : Operand → AV) (h : List HE) (nid : Nat) (K : OK R) : Option R := match o with
  | .move x => K (ρ x) []
  | .assign x => K (ρ x) []
  | .pick c a b => match ρ c with | .bool t => bif t then K (ρ a) [] else K (ρ b) [] | _ => none
  | .alloc e => match T e with | some i => (bif fresh h nid then K (.ptr nid 0) [(nid, .blk (ofVal i.zero).flat)] else none) | none => none
  | .box e x => bif fresh h nid && allOK (ρ x).flat then K (.ptr nid 0) [(nid, .blk (ρ x).flat)] else none
  | .build t ps => match T t with
    | some i => bif fieldsOK T i.desc then (match partsOf T i ρ ps.toList with
      | some l => match spliceAll l (ofVal i.zero).flat with
        | some cs => K (.agg cs) []
        | none => none
      | none => none) else none
    | none => none
  | .buildSlice t n ps => match elemInf T t with
    | some (e, j, τ) => bif fresh h nid && Nat.ble n 1000 && Nat.beq n ps.toList.length && Nat.ble j.size 1000 then (match litL τ h ρ ps.toList 0 with
      | some l => K (.own nid 1) (freeze (litCells ρ ps.toList) ++ [(nid, .lst τ e false 1 l)])
      | none => none) else none
    | none => match elemRow T t with
      | some (_, j) => bif fresh h nid && Nat.ble n 1000 && Nat.beq n ps.toList.length && Nat.ble j.size 1000 then (match rowL j.size ρ ps.toList 0 with
        | some l => K (.bs nid 0 n n) [(nid, .blk l)]
        | none => none) else none
      | none => none
  | .load t x => match T t with | some i => behindK h (ρ x) fun cs => partK i cs fun v => K v [] | none => none
  | .store t a x => match T t with | some i => bif Nat.beq (ρ x).flat.length i.size then storeK h (ρ a) (ρ x).flat K else none | none => none
  | .nilCheck x => match ρ x with
    | .ptr i o => K (.ptr i o) []
    | .eptr i g z k o => K (.eptr i g z k o) []
    | .ro t x o => K (.ro t x o) []
    | .fn f a b => (match f with | .func g => K (.fn (.func g) a b) [] | _ => none)
    | _ => none
  | .binOp op t x y _ => match op with
    | .eql => match eqCmp T t h (ρ x) (ρ y) with
      | some b => K (.bool b) []
      | none => binK T h .eql t (ρ x) (ρ y) fun v => K v []
    | .neq => match eqCmp T t h (ρ x) (ρ y) with
      | some b => K (.bool (!b)) []
      | none => binK T h .neq t (ρ x) (ρ y) fun v => K v []
    | op => binK T h op t (ρ x) (ρ y) fun v => K v []
  | .unOp op _ x => unK op (ρ x) fun v => K v []
  | .convert s d x => convertK T h s d (ρ x) fun v => K v []
  | .makeFunc f a b => K (.fn f (a.toList.map ρ) (b.toList.map ρ)) []
  | .makeSlice t l c => match elemInf T t, ρ l, ρ c with
    | some (e, j, τ), .int _ a, .int _ b => bif fresh h nid && decide (0 ≤ a) && decide (a ≤ b) && decide (b ≤ (most : Int)) then K (.own nid 1) [(nid, .lst τ e false 1 (List.replicate a.toNat τ.zero))] else none
    | _, _, _ => none
  | .slice t x lo hi mx => sliceK T h t (ρ x) (lo.map ρ) (hi.map ρ) (mx.map ρ) K
  | .fieldAddr s x f => fieldAddrK T s f (ρ x) fun v => K v []
  | .field s x f => fieldK T s f (ρ x) fun v => K v []
  | .indexAddr t x i => match T t, ρ i with
    | some j, .int _ i => (match j.desc, ρ x with
      | .slice e, .sl τ _ l => (match T e with
        | some k => bif Nat.beq τ.size k.size && decide (0 ≤ i) then optb l[i.toNat]? fun y => K (.ro τ y 0) [] else none
        | none => none)
      | .slice e, .own id g => (match h[id]?, T e with
        | some (.lst τ _ _ g' l), some k => bif Nat.beq τ.size k.size && Nat.beq g g' && decide (0 ≤ i) && decide (i < (lenI l)) then K (.eptr id g τ.size i.toNat 0) [] else none
        | _, _ => none)
      | .slice e, .bs id off n _ => (match T e with
        | some k => bif decide (0 ≤ i) && decide (i < (n : Int)) then K (.ptr id (off + i.toNat * k.size)) [] else none
        | none => none)
      | .array n e, p => (match T e with
        | some k => bif Nat.ble 2 n then pickIdx n 0 i fun q => addrAdd p (q * k.size) fun v => K v [] else none
        | none => none)
      | _, _ => none)
    | _, _ => none
  | .index t x i => match T t, ρ x, ρ i with
    | some j, .str s, .int _ i => (match j.desc with
      | .string => bif decide (0 ≤ i) && decide (i < (sizeI s)) then K (.int .u8 (bt s i)) [] else none
      | _ => none)
    | some j, .agg cs, .int _ i => (match j.desc with
      | .array n e => (match T e with
        | some k => pickIdx n 0 i fun q => partK k (cs.drop (q * k.size)) fun v => K v []
        | none => none)
      | _ => none)
    | _, _, _ => none
  | .extract x i => match ρ x with
    | .tup vs => match vs[i]? with | some v => K v [] | none => none
    | _ => none
  | _ => none

/-- What a function makes of plain data. -/
structure PF where
  (ps rs : List (Bool × Nat))
  (τ σ : Ty)
  f : τ.den → Option σ.den
  fr : List (Option TypeId) := []
def unflat : List (Bool × Nat) → List AV → List AV
  | [], _ => []
  | (true, n) :: r, cs => .agg (cs.take n) :: unflat r (cs.drop n)
  | (false, _) :: r, cs => match cs with
    | c :: cs => c :: unflat r cs
    | [] => []
def fits : List (Bool × Nat) → List AV → Bool
  | [], [] => true
  | (true, n) :: r, .agg cs :: vs => bif Nat.beq cs.length n then fits r vs else false
  | (false, _) :: r, .agg _ :: vs => false
  | (false, _) :: r, v :: vs => fits r vs
  | _, _ => false
def flats : List AV → List AV
  | [] => []
  | v :: r => v.flat ++ flats r
def Ty.noSl : Ty → Bool
  | .sl _ => false
  | .pair a b => a.noSl && b.noSl
  | _ => true
def oneOrTup : List AV → AV
  | [v] => v
  | vs => .tup vs
/-- What a function takes, as plain data; nothing, for one without parameters. -/
def PF.closeP (p : PF) (h : List HE) (cs : List AV) : Option p.τ.den := match p.ps with
  | [] => (match cs with | [] => some p.τ.zero | _ => none)
  | _ => p.τ.closeAll h cs
/-- Results that are lists of their own: ids for them. -/
def frN : List (Option TypeId) → Nat
  | [] => 0
  | some _ :: r => frN r + 1
  | none :: r => frN r
def frCells : Nat → List (Option TypeId) → List AV → Option (List AV × Upd)
  | _, [], cs => some (cs, [])
  | nid, some e :: fs, .sl t nl l :: cs => match frCells (nid + 1) fs cs with
    | some q => some (.own nid 1 :: q.1, (nid, .lst t e nl 1 l) :: q.2)
    | none => none
  | nid, none :: fs, c :: cs => match frCells nid fs cs with
    | some q => some (c :: q.1, q.2)
    | none => none
  | _, _, _ => none
def allFresh (h : List HE) : Nat → Nat → Bool
  | _, 0 => true
  | nid, n + 1 => fresh h nid && allFresh h (nid + 1) n
/-- Results that share nothing with what was given: each list is a new one, of plain elements. -/
def Ty.leaves : Ty → List Ty
  | .pair a b => a.leaves ++ b.leaves
  | t => [t]
def frFull : List Ty → List (Option TypeId) → Bool
  | [], _ => true
  | .sl t :: ts, some _ :: fs => t.noSl && frFull ts fs
  | .sl _ :: _, _ => false
  | _ :: ts, fs => frFull ts fs.tail
/-- A call of a function that is told on plain data. -/
def pureK (p : PF) (fr : List (Option TypeId)) (args : List AV) (h : List HE) (nid : Nat) (K : OK R) : Option R :=
  bif fits p.ps args && allOK (flats args) && allFresh h nid (frN fr) then (match p.closeP h (flats args) with
    | some x => optb (p.f x) fun r => match frCells nid fr (p.σ.cells r) with
      | some q => K (oneOrTup (unflat p.rs q.1)) ((bif frFull p.σ.leaves fr then [] else freeze (flats args)) ++ q.2)
      | none => none
    | none => none) else none
/-- Are a call's lists new ones at this place of the code? -/
def frOf (f : Operand) (p : PF) (g : FuncId) : List (Option TypeId) := match f with
  | .func g' => bif Nat.beq g' g then p.fr else []
  | _ => []
/-- What a function makes of plain data, whose last parameter is a closure over one variable. -/
structure PC where
  (ps rs : List (Bool × Nat))
  (τ κ σ : Ty)
  f : τ.den → κ.den → Option σ.den
/-- A function that sorts a list in its place, by a function that compares. -/
structure SF where
  τ : Ty
  f : List τ.den → List τ.den
/-- The functions that are told on plain data; by the code of the closure too, which is their last argument. -/
structure PT where
  f : FuncId → Option PF
  c : FuncId → FuncId → Option PC := fun _ _ => none
  cv : TypeId → TypeId → Bool := fun _ _ => false
  vw : Bool := false
  srt : FuncId → FuncId → Option SF := fun _ _ => none
instance : CoeFun PT (fun _ => FuncId → Option PF) := ⟨PT.f⟩
def lastClo : AV → Option (FuncId × Nat)
  | .fn (.func g) [] [.ptr i 0] => some (g, i)
  | _ => none
def closArg : List AV → Option (List AV × FuncId × Nat)
  | [] => none
  | [a] => match lastClo a with | some q => some ([], q) | none => none
  | a :: b :: r => match closArg (b :: r) with | some q => some (a :: q.1, q.2) | none => none
def closK (F : PT) (g : FuncId) (args : List AV) (h : List HE) (K : OK R) : Option R := match closArg args with
  | some (init, g', i) => match F.c g g', h[i]? with
    | some p, some (.blk cs) => bif fits p.ps init && allOK (flats init) && p.σ.noSl && Nat.beq (idsOf cs).length 0 then (match p.τ.closeAll h (flats init), p.κ.closeAll h cs with
      | some x, some z => optb (p.f x z) fun r => K (oneOrTup (unflat p.rs (p.σ.cells r))) []
      | _, _ => none) else none
    | _, _ => none
  | none => none
/-- Is a call one of those? -/
def closes (F : PT) (g : FuncId) (args : List AV) : Bool := match closArg args with
  | some (_, g', _) => (F.c g g').isSome
  | none => false
/-- Is a call one that sorts? -/
def sorts (F : PT) (g : FuncId) (args : List AV) : Bool := match args with
  | [_, .fn (.func g') [] []] => (F.srt g g').isSome
  | _ => false
def sortK (F : PT) (g : FuncId) (args : List AV) (h : List HE) (K : OK R) : Option R := match args with
  | [x, .fn (.func g') [] []] => match F.srt g g' with
    | some s => (match x with
      | .nils => K (.tup []) []
      | .own i v => (match h[i]? with
        | some (.lst t e nl v' l) => bif Nat.beq v v' then (match castL s.τ t l with | some l => bif decide (l.length ≤ 1099511627776) then K (.tup []) [(i, .lst s.τ e nl v (s.f l))] else none | none => none) else none
        | _ => none)
      | _ => none)
    | none => none
  | _ => none
/-! Lists of its own, looked at through a window; rows that come of a string. -/
def viewAt (h : List HE) (x : AV) (K : Nat → Nat → (t : Ty) → TypeId → Bool → List t.den → Int → Int → Option R) : Option R := match x with
  | .own i g => match h[i]? with
    | some (.lst t e nl g' l) => bif Nat.beq g g' then K i g t e nl l 0 (lenI l) else none
    | _ => none
  | .vw i g z k n => match h[i]? with
    | some (.lst t e nl g' l) => bif Nat.beq g g' && Nat.beq t.size z then K i g t e nl l k n else none
    | _ => none
  | _ => none
def sliceOf (T : Tab) (t : TypeId) : Option Inf := match T t with
  | some i => (match i.desc with | .slice e => T e | _ => none)
  | none => none
def viewK (T : Tab) (h : List HE) (t : TypeId) (x : AV) (lo hi mx : Option AV) (K : OK R) : Option R := match sliceOf T t with
  | some j => viewAt h x fun i g τ ty nl l k n => match asI lo 0, asI hi n, mx with
    | some a, some u, none => bif Nat.beq τ.size j.size && decide (0 ≤ a) && decide (a ≤ u) && decide (k + u ≤ lenI l) then K (.vw i g τ.size (k + a) (u - a)) [] else none
    | some a, some u, some (.int _ m) => bif hi.isSome && Nat.beq τ.size j.size && decide (0 ≤ a) && decide (a ≤ u) && decide (u ≤ m) && decide (k + m ≤ lenI l) then K .junk [] else none
    | _, _, _ => none
  | none => none
/-- Elements laid over others. -/
def lay {α : Type} (l : List α) (k : Nat) (m : List α) : List α := l.take k ++ m ++ l.drop (k + m.length)
def copyK (T : Tab) (h : List HE) (t : TypeId) (d s : AV) (K : OK R) : Option R := match sliceOf T t with
  | some j => viewAt h d fun i g τ ty nl l k n => match srcSl τ h s with
    | some m => bif Nat.beq τ.size j.size then K (.int .i64 (lenI (m.take n.toNat))) [(i, .lst τ ty nl g (lay l k.toNat (m.take n.toNat)))] else none
    | none => none
  | none => none
def clearK (T : Tab) (h : List HE) (t : TypeId) (x : AV) (K : OK R) : Option R := match elemInf T t with
  | some (e, j, τ0) => viewAt h x fun i g τ ty nl l k n => match castL τ0 τ l with
    | some l => K .junk [(i, .lst τ0 ty nl g (lay l k.toNat (List.replicate n.toNat τ0.zero)))]
    | none => none
  | none => none
def appendVK (T : Tab) (h : List HE) (t : TypeId) (s x : AV) (K : OK R) : Option R := match elemInf T t with
  | some (e, j, τ0) => viewAt h s fun i g τ ty nl l k n => match srcSl τ h x with
    | some m => bif Nat.beq τ.size j.size && Nat.beq e ty && decide (k = 0) && decide (n + lenI m ≤ lenI l) then K (.vw i g τ.size k (n + lenI m)) [(i, .lst τ ty nl g (lay l n.toNat m))] else none
    | none => none
  | none => none
/-- A string's bytes in a row of their own. -/
def bytesK (T : Tab) (h : List HE) (nid : Nat) (s d : TypeId) (x : AV) (K : OK R) : Option R := match T s, T d, x with
  | some i, some j, .str b => (match i.desc, j.desc with
    | .string, .slice e => (match T e with
      | some k => (match k.desc with | .int .u8 => bif fresh h nid && Nat.beq k.size 1 && decide (b.size ≤ most) then K (.own nid 1) [(nid, .lst (.int .u8) (MARK + e) false 1 (intsOf b))] else none | _ => none)
      | none => none)
    | _, _ => none)
  | _, _, _ => none
/-! Maps. -/
/-- All ways that the tape may choose come to one result. -/
noncomputable def demon {α : Type} (l : List α) (K : α → Option R) : Option R :=
  @dite (Option R) (∃ r, ∀ a ∈ l, K a = some r) (Classical.propDecidable _) (fun h => some h.choose) (fun _ => none)
def Ty.eqb : (t : Ty) → t.den → t.den → Bool
  | .int _, a, b => decide (a = b)
  | .bool, a, b => a == b
  | .str, a, b => decide (a = b)
  | .sl _, _, _ => false
  | .pair a b, x, y => a.eqb x.1 y.1 && b.eqb x.2 y.2
def avOf (a : Bool) (cs : List AV) : AV := bif a then .agg cs else match cs with | c :: _ => c | [] => .junk
/-- Keys: numbers, truth values, texts, and structs of them. -/
def keyTyF (T : Tab) (f : TypeId → Option Ty) : List Field → Nat → Option Ty
  | [], _ => none
  | [fd], o => match T fd.type with
    | some j => bif Nat.beq fd.offset o then (match f fd.type with | some a => bif Nat.beq a.size j.size then some a else none | none => none) else none
    | none => none
  | fd :: fd' :: r, o => match T fd.type with
    | some j => bif Nat.beq fd.offset o then (match f fd.type, keyTyF T f (fd' :: r) (o + j.size) with | some a, some b => bif Nat.beq a.size j.size then some (.pair a b) else none | _, _ => none) else none
    | none => none
def keyTy (T : Tab) : Nat → TypeId → Option Ty
  | 0, _ => none
  | d + 1, t => match T t with
    | some i => (match i.desc with
      | .int k => some (.int k)
      | .bool => some .bool
      | .string => some .str
      | .struct fs => bif i.eqs then keyTyF T (keyTy T d) fs.toList 0 else none
      | _ => none)
    | none => none
def isAggV : Value → Bool
  | .agg _ => true
  | _ => false
structure MInf where
  kt : TypeId
  et : TypeId
  k : Inf
  e : Inf
  K : Ty
  E : Ty
def mapInf (T : Tab) (t : TypeId) : Option MInf := match T t with
  | some i => match i.desc with
    | .map kt et => match T kt, T et, keyTy T 8 kt with
      | some k, some e, some K => match e.ty with
        | some E => bif Nat.beq K.size k.size && Nat.beq E.size e.size && (isAggV e.zero == isAggD e.desc) then some ⟨kt, et, k, e, K, E⟩ else none
        | none => none
      | _, _, _ => none
    | _ => none
  | none => none
def mget {α : Type} (K : Ty) : List (Nat × K.den × α) → K.den → Option α
  | [], _ => none
  | d :: r, k => bif K.eqb k d.2.1 then some d.2.2 else mget K r k
def mhas {α : Type} (K : Ty) (D : List (Nat × K.den × α)) (k : K.den) : Bool := (mget K D k).isSome
def mval {α : Type} (K : Ty) (z : α) (D : List (Nat × K.den × α)) (k : K.den) : α := (mget K D k).getD z
def mput {α : Type} (K : Ty) (k : K.den) (v : α) (clk : Nat) : List (Nat × K.den × α) → List (Nat × K.den × α)
  | [] => [(clk, k, v)]
  | d :: r => bif K.eqb k d.2.1 then (d.1, k, v) :: r else d :: mput K k v clk r
def mclk {α : Type} (K : Ty) (D : List (Nat × K.den × α)) (k : K.den) (clk : Nat) : Nat := bif mhas K D k then clk else clk + 1
/-- What of a map is left to a range over it. -/
def leftD {α : Type} (D : List (Nat × α)) (seen : List Nat) : List (Nat × α) := D.filter fun d => !memN seen d.1
def lastSeen : List Nat → Option Nat
  | [] => none
  | [a] => some a
  | _ :: b :: r => lastSeen (b :: r)
def entryD {α : Type} (D : List (Nat × α)) (seen : List Nat) : Option α := match lastSeen seen with
  | some b => (D.find? fun d => Nat.beq d.1 b).map (·.2)
  | none => none
def castD (K K' E E' : Ty) (D : List (Nat × K'.den × E'.den)) : Option (List (Nat × K.den × E.den)) := if h : K' = K ∧ E' = E then some (h.1 ▸ h.2 ▸ D) else none
def atMap (h : List HE) (m : MInf) (x : AV) (K : Nat → List (Nat × m.K.den × m.E.den) → Nat → Option R) : Option R := match x with
  | .mpv i => match h[i]? with
    | some (.mp ka ea K' E' D clk) => bif (ka == isAggD m.k.desc) && (ea == isAggD m.e.desc) then (match castD m.K K' m.E E' D with | some D => K i D clk | none => none) else none
    | _ => none
  | _ => none
/-- A key, an element, as data. -/
def asD (h : List HE) (j : Inf) (t : Ty) (x : AV) : Option t.den := match isAggD j.desc, x with
  | true, .agg cs => bif allOK cs then t.closeAll h cs else none
  | true, _ => none
  | false, .agg _ => none
  | false, c => bif cellOK c then t.closeAll h [c] else none
def iterAt (h : List HE) (it : AV) (K : Nat → Nat → Nat → List Nat → Nat → (ka ea : Bool) → (kt et : Ty) → List (Nat × kt.den × et.den) → Nat → Option R) : Option R := match it with
  | .ptr j 0 => match h[j]? with
    | some (.itr i since seen last) => match h[i]? with
      | some (.mp ka ea kt et D clk) => K j i since seen last ka ea kt et D clk
      | _ => none
    | _ => none
  | _ => none
def isMapL : Op → Bool
  | .makeMap _ none => true
  | .lookup _ _ _ _ => true
  | .mapUpdate _ _ _ _ => true
  | .range _ _ => true
  | _ => false
def isIter : Op → Bool
  | .next _ _ => true
  | .entry _ => true
  | _ => false
def mapL (T : Tab) (o : Op) (A : Operand → AV) (h : List HE) (nid : Nat) (K : OK R) : Option R := match o with
  | .makeMap t none => (match mapInf T t with
    | some m => bif fresh h nid then K (.mpv nid) [(nid, .mp (isAggD m.k.desc) (isAggD m.e.desc) m.K m.E [] 0)] else none
    | none => none)
  | .lookup t x ix ok => (match mapInf T t with
    | some m => atMap h m (A x) fun i D clk => match asD h m.k m.K (A ix) with
      | some k => K (bif ok then .tup [avOf (isAggD m.e.desc) (m.E.cells (mval m.K m.E.zero D k)), .bool (mhas m.K D k)] else avOf (isAggD m.e.desc) (m.E.cells (mval m.K m.E.zero D k))) []
      | none => none
    | none => none)
  | .mapUpdate t x ix v => (match mapInf T t with
    | some m => atMap h m (A x) fun i D clk => match asD h m.k m.K (A ix), asD h m.e m.E (A v) with
      | some k, some y => K .junk (freeze (A v).flat ++ [(i, .mp (isAggD m.k.desc) (isAggD m.e.desc) m.K m.E (mput m.K k y clk D) (mclk m.K D k clk))])
      | _, _ => none
    | none => none)
  | .range t x => (match mapInf T t with
    | some m => atMap h m (A x) fun i D clk => bif fresh h nid then K (.ptr nid 0) [(nid, .itr i clk [] clk)] else none
    | none => none)
  | _ => none
noncomputable def iterK (A : Operand → AV) (h : List HE) (o : Op) (K : OK R) : Option R := match o with
  | .next it str => bif str then none else iterAt h (A it) fun j i since seen last ka ea kt et D clk => bif Nat.beq clk since && Nat.ble since last then
      (bif (leftD D seen).isEmpty then K (.tup [.bool false]) [] else demon (leftD D seen) fun d => K (.tup [.bool true, avOf ka (kt.cells d.2.1), avOf ea (et.cells d.2.2)]) [(j, .itr i since (seen ++ [d.1]) clk)])
    else none
  | .entry it => iterAt h (A it) fun j i since seen last ka ea kt et D clk => bif Nat.beq clk last then optb (entryD D seen) fun d => K (.tup [avOf ka (kt.cells d.1), avOf ea (et.cells d.2)]) [] else none
  | _ => none
def isVw : AV → Bool
  | .vw _ _ _ _ _ => true
  | _ => false
def isOwn : AV → Bool
  | .own _ _ => true
  | .vw _ _ _ _ _ => true
  | _ => false
def headVw : List AV → Bool
  | c :: _ => isVw c
  | [] => false
def isExt (F : PT) (o : Op) (A : Operand → AV) : Bool := match o with
  | .convert s d _ => F.cv s d
  | .slice _ x _ _ _ => F.vw && isOwn (A x)
  | .call c => (match c.callee with
    | .builtin .copy => true
    | .builtin .clear => true
    | .builtin .append => F.vw && headVw (c.args.toList.map A)
    | .builtin .len => F.vw && headVw (c.args.toList.map A)
    | _ => false)
  | o => isMapL o
def extB (T : Tab) (h : List HE) (b : Builtin) (ats : Array TypeId) (args : List AV) (K : OK R) : Option R := match ats[0]?, b, args with
  | some t, .copy, [d, s] => copyK T h t d s K
  | some t, .clear, [x] => clearK T h t x K
  | some t, .append, [s, x] => (match ats[1]? with
    | some t' => bif Nat.beq t t' && Nat.beq ats.size 2 then appendVK T h t s x K else none
    | none => none)
  | some t, .len, [x] => (match sliceOf T t with | some _ => viewAt h x fun i g t e nl l k n => K (.int .i64 n) [] | none => none)
  | _, _, _ => none
def extK (T : Tab) (o : Op) (A : Operand → AV) (h : List HE) (nid : Nat) (K : OK R) : Option R := match o with
  | .convert s d x => bytesK T h nid s d (A x) K
  | .slice t x lo hi mx => viewK T h t (A x) (lo.map A) (hi.map A) (mx.map A) K
  | .call c => (match c.callee with
    | .builtin b => extB T h b c.argTypes (c.args.toList.map A) K
    | _ => none)
  | o => mapL T o A h nid K
/-- An operation that touches no more than what its operands lead to. -/
def locK0 (T : Tab) (F : PT) (o : Op) (A : Operand → AV) (h : List HE) (nid : Nat) (K : OK R) : Option R := match o with
  | .call c => match c.callee with
    | .builtin b => builtinK T h nid b c.argTypes (c.args.toList.map A) K
    | .value f => match A f with
      | .fn (.func g) [] [] => match F g with
        | some p => pureK p (frOf f p g) (c.args.toList.map A) h nid K
        | none => bif sorts F g (c.args.toList.map A) then sortK F g (c.args.toList.map A) h K else closK F g (c.args.toList.map A) h K
      | _ => none
    | _ => none
  | o => opK T o A h nid K
def locK (T : Tab) (F : PT) (o : Op) (A : Operand → AV) (h : List HE) (nid : Nat) (K : OK R) : Option R := bif isExt F o A then extK T o A h nid K else locK0 T F o A h nid K
/-- Calls of functions that are entered. -/
abbrev CallK (R : Type) := FuncId → List AV → List HE → (AV → List HE → Option R) → Option R
structure St where
  n : Nat
  env : List (Nat × AV)
  heap : List HE
  v0 : List Nat
def St.put (st : St) (dst : Option Tmp) (v : AV) (h : List HE) : St := match dst with
  | some d => { st with env := (d, v) :: st.env, heap := h }
  | none => { st with heap := h }
def St.know (st : St) (d : Tmp) (b : Bool) : St := { st with env := (d, .bool b) :: st.env }
def dstOK (st : St) : Option Tmp → Bool
  | some d => Nat.blt d st.n
  | none => true
/-- The function that a call enters, if it is none of those that are told on plain data. -/
def entersK (F : PT) (A : Operand → AV) : Op → Option (FuncId × List AV)
  | .call c => match c.callee with
    | .value f => match A f with
      | .fn (.func g) first capt => match F g with
        | some _ => none
        | none => bif closes F g (first ++ c.args.toList.map A ++ capt) || sorts F g (first ++ c.args.toList.map A ++ capt) then none else some (g, first ++ c.args.toList.map A ++ capt)
      | _ => none
    | _ => none
  | _ => none
noncomputable def oneOp (T : Tab) (F : PT) (C : CallK R) (o : Op) (st : St) (nid : Nat) (K : AV → List HE → Option R) : Option R := match entersK F (opv T st.env) o with
  | some (g, args) => C g args st.heap K
  | none => bif isIter o then iterK (opv T st.env) st.heap o (fun v u => K v (applyU u st.heap)) else locK T F o (opv T st.env) st.heap nid fun v u => K v (applyU u st.heap)
def makesN (F : PT) : Op → Nat
  | .alloc _ => 1
  | .box _ _ => 1
  | .buildSlice _ _ _ => 1
  | .makeSlice _ _ _ => 1
  | .makeMap _ _ => 1
  | .range _ _ => 1
  | .convert s d _ => bif F.cv s d then 1 else 0
  | .call c => match c.callee with
    | .builtin .append => 1
    | .value (.func g) => (match F g with | some p => frN p.fr | none => 0)
    | _ => 0
  | _ => 0
def makers (F : PT) : List Oper → Nat
  | [] => 0
  | o :: r => makers F r + makesN F o.op
def guardSlot (all : List Oper) (j : Nat) : Option Tmp := match all[j]? with | some p => p.dst | none => none
noncomputable def opsK (T : Tab) (F : PT) (C : CallK R) (all : List Oper) : List Oper → Nat → St → (St → Option R) → Option R
  | [], _, st, K => K st
  | o :: r, nid, st, K => bif dstOK st o.dst then (match o.guard with
    | none => oneOp T F C o.op st nid fun v h => opsK T F C all r (nid + makesN F o.op) (st.put o.dst v h) K
    | some (j, want) => match guardSlot all j with
      | some d => (match look st.env d with
        | .bool b => bif b then
            (bif want then oneOp T F C o.op (st.know d true) nid fun v h => opsK T F C all r (nid + makesN F o.op) ((st.know d true).put o.dst v h) K
            else opsK T F C all r (nid + makesN F o.op) ((st.know d true).put o.dst skv st.heap) K)
          else
            (bif want then opsK T F C all r (nid + makesN F o.op) ((st.know d false).put o.dst skv st.heap) K
            else oneOp T F C o.op (st.know d false) nid fun v h => opsK T F C all r (nid + makesN F o.op) ((st.know d false).put o.dst v h) K)
        | .lit v => bif isUndef v then opsK T F C all r (nid + makesN F o.op) (st.put o.dst skv st.heap) K else none
        | _ => none)
      | none => none) else none

/-! Regions whose order is open. -/
def fpOf (o : Op) (A : Operand → AV) : List Nat := idsOf (flats (o.operands.toList.map A))
abbrev Rc := List Nat × List Nat
def idR : Nat → Nat → List Nat
  | _, 0 => []
  | nid, n + 1 => nid :: idR (nid + 1) n
def fpR (F : PT) (o : Op) (A : Operand → AV) (nid : Nat) : List Nat := idR nid (makesN F o) ++ fpOf o A
def maskE (acc : List Nat) : List Edge → Nat
  | [] => 0
  | e :: r => bif Region.binds .any e then (2 ^ e.on ||| acc.getD e.on 0) ||| maskE acc r else maskE acc r
def masksGo : List Oper → List Nat → List Nat
  | [], acc => acc
  | o :: r, acc => masksGo r (acc ++ [maskE acc o.after.toList])
def masks (ops : List Oper) : List Nat := masksGo ops []
def bef (ms : List Nat) (i j : Nat) : Bool := (ms.getD j 0).testBit i
def edgesOK : List Oper → Nat → Bool
  | [], _ => true
  | o :: r, i => o.after.toList.all (fun e => !Region.binds .any e || Nat.blt e.on i) && edgesOK r (i + 1)
/-- Operation j against those before it. -/
def apartRow (all : Array Oper) (ms : List Nat) (j : Nat) (oj : Oper) : List Oper → Nat → Bool
  | [], _ => true
  | o :: r, i => (bif Nat.ble j i then true else (bif bef ms i j then true else o.apart all oj)) && apartRow all ms j oj r (i + 1)
def apartAll (all : Array Oper) (ms : List Nat) : List Oper → Nat → Bool
  | [], _ => true
  | o :: r, j => apartRow all ms j o all.toList 0 && apartAll all ms r (j + 1)
def staticOK (ops : Array Oper) : Bool := edgesOK ops.toList 0 && apartAll ops (masks ops.toList) ops.toList 0
def disj (a b : List Nat) : Bool := a.all fun i => !memN b i
def dynRow (ms : List Nat) (j : Nat) (wr : List Nat) : List Rc → Nat → Bool
  | [], _ => true
  | x :: r, i => (bif Nat.beq i j then true else (bif (bif Nat.blt i j then bef ms i j else bef ms j i) then true else disj wr x.1 && disj wr x.2)) && dynRow ms j wr r (i + 1)
def dynAll (ms : List Nat) (all : List Rc) : List Rc → Nat → Bool
  | [], _ => true
  | x :: r, j => (match x.2 with | [] => true | _ => dynRow ms j x.2 all 0) && dynAll ms all r (j + 1)

/-- Does everything that is listed ahead come ahead of it, in every order, and everything behind it behind it? -/
def pivotOK (ms : List Nat) (p n : Nat) : Bool := (List.range n).all fun i => Nat.beq i p || (bif Nat.blt i p then bef ms i p else bef ms p i)
def blanks (n : Nat) : List Rc := List.replicate n ([], [])
noncomputable def opsD (T : Tab) (F : PT) (C : CallK R) (ms : List Nat) (all : List Oper) : List Oper → Nat → St → List Rc → (St → List Rc → Option R) → Option R
  | [], _, st, acc, K => K st acc
  | o :: r, nid, st, acc, K => bif dstOK st o.dst then (match o.guard with
    | none => (match entersK F (opv T st.env) o.op with
      | some (g, args) => bif pivotOK ms acc.length all.length && dynAll ms acc acc 0 then C g args st.heap fun v h => opsD T F C ms all r (nid + makesN F o.op) (st.put o.dst v h) (blanks (acc.length + 1)) K else none
      | none => locK T F o.op (opv T st.env) st.heap nid fun v u => opsD T F C ms all r (nid + makesN F o.op) (st.put o.dst v (applyU u st.heap)) (acc ++ [(fpR F o.op (opv T st.env) nid, u.map (·.1))]) K)
    | some (j, want) => match guardSlot all j with
      | some d => (match look st.env d with
        | .bool b => bif b then
            (bif want then (match entersK F (opv T (st.know d true).env) o.op with
              | some (g, args) => bif pivotOK ms acc.length all.length && dynAll ms acc acc 0 then C g args st.heap fun v h => opsD T F C ms all r (nid + makesN F o.op) ((st.know d true).put o.dst v h) (blanks (acc.length + 1)) K else none
              | none => locK T F o.op (opv T (st.know d true).env) st.heap nid fun v u => opsD T F C ms all r (nid + makesN F o.op) ((st.know d true).put o.dst v (applyU u st.heap)) (acc ++ [(fpR F o.op (opv T (st.know d true).env) nid, u.map (·.1))]) K)
            else opsD T F C ms all r (nid + makesN F o.op) ((st.know d true).put o.dst skv st.heap) (acc ++ [([], [])]) K)
          else
            (bif want then opsD T F C ms all r (nid + makesN F o.op) ((st.know d false).put o.dst skv st.heap) (acc ++ [([], [])]) K
            else (match entersK F (opv T (st.know d false).env) o.op with
              | some (g, args) => bif pivotOK ms acc.length all.length && dynAll ms acc acc 0 then C g args st.heap fun v h => opsD T F C ms all r (nid + makesN F o.op) ((st.know d false).put o.dst v h) (blanks (acc.length + 1)) K else none
              | none => locK T F o.op (opv T (st.know d false).env) st.heap nid fun v u => opsD T F C ms all r (nid + makesN F o.op) ((st.know d false).put o.dst v (applyU u st.heap)) (acc ++ [(fpR F o.op (opv T (st.know d false).env) nid, u.map (·.1))]) K))
        | .lit v => bif isUndef v then opsD T F C ms all r (nid + makesN F o.op) (st.put o.dst skv st.heap) (acc ++ [([], [])]) K else none
        | _ => none)
      | none => none) else none

/-! Regions of open order with one function that is entered, beside which operations stand in no order that change nothing: they must say the same ahead of the call and behind it. -/
/-- Two values that must be one. -/
noncomputable def eqG (a b : AV) (K : Option R) : Option R := @ite (Option R) (a = b) (Classical.propDecidable _) K none
theorem eqG_self (a : AV) (K : Option R) : eqG a a K = K := by unfold eqG; exact if_pos rfl
theorem eqG_some {a b : AV} {K : Option R} {r : R} (h : eqG a b K = some r) : a = b ∧ K = some r := by
  unfold eqG at h
  split at h
  · exact ⟨‹_›, h⟩
  · cases h
abbrev Lin := Nat × Nat × Oper
def lineup (F : PT) : List Oper → Nat → Nat → List Lin
  | [], _, _ => []
  | o :: r, i, nid => (i, nid, o) :: lineup F r (i + 1) (nid + makesN F o.op)
abbrev RcL := List (Nat × Rc)
noncomputable def opsL (T : Tab) (F : PT) : List Lin → St → RcL → (St → RcL → Option R) → Option R
  | [], st, acc, K => K st acc
  | (i, nid, o) :: r, st, acc, K => bif dstOK st o.dst && o.guard.isNone then locK T F o.op (opv T st.env) st.heap nid fun v u => opsL T F r (st.put o.dst v (applyU u st.heap)) (acc ++ [(i, fpR F o.op (opv T st.env) nid, u.map (·.1))]) K else none
noncomputable def opsC (T : Tab) (F : PT) : List Lin → St → List HE → Option R → Option R
  | [], _, _, K => K
  | (_, nid, o) :: r, st, h, K => match o.dst with
    | some d => locK T F o.op (opv T st.env) h nid fun v u => match u with
      | [] => eqG v (look st.env d) (opsC T F r st h K)
      | _ => none
    | none => none
def apartI (ops : Array Oper) (i j : Nat) : Bool := match ops[i]?, ops[j]? with | some a, some b => a.apart ops b | _, _ => false
/-- Each against those behind it. -/
def pairG (ops : Array Oper) (ms : List Nat) : RcL → Bool
  | [] => true
  | x :: r => (r.all fun y => !Nat.beq x.1 y.1 && (bef ms x.1 y.1 || apartI ops x.1 y.1 && disj x.2.2 y.2.1 && disj x.2.2 y.2.2 && disj y.2.2 x.2.1)) && pairG ops ms r
/-- No slot is written that was looked at, or written, before. -/
def ssaG (ops : Array Oper) : List Lin → Bool
  | [] => true
  | x :: r => ((x :: r).all fun y => match y.2.2.dst with | some d => !(x.2.2.looksAt ops).contains d | none => true) && (r.all fun y => match y.2.2.dst with | some d => !(x.2.2.dst == some d) | none => true) && ssaG ops r
def stopG (ms : List Nat) (q n : Nat) : Bool := (List.range n).all fun j => bif Nat.ble q j then ((List.range q).all fun i => bef ms i j) else true
def linA (ms : List Nat) (p : Nat) (L : List Lin) : List Lin := L.filter fun x => !Nat.beq x.1 p && !bef ms p x.1
def linB (ms : List Nat) (p : Nat) (L : List Lin) : List Lin := L.filter fun x => !Nat.beq x.1 p && bef ms p x.1
def linF (ms : List Nat) (p : Nat) (L : List Lin) : List Lin := L.filter fun x => !bef ms x.1 p
noncomputable def opsG (T : Tab) (F : PT) (C : CallK R) (ops : Array Oper) (p q : Nat) (nid0 : Nat) (st : St) (K : St → Option R) : Option R :=
  bif staticOK ops && Nat.blt p q && Nat.ble q ops.toList.length && stopG (masks ops.toList) q ops.toList.length && ssaG ops (linA (masks ops.toList) p ((lineup F ops.toList 0 nid0).take q)) then
    opsL T F (linA (masks ops.toList) p ((lineup F ops.toList 0 nid0).take q)) st [] fun st1 ra =>
      bif pairG ops (masks ops.toList) ra && ra.all (fun x => bef (masks ops.toList) x.1 p || (x.2.2.isEmpty && apartI ops x.1 p)) then
        (match ops.toList[p]? with
        | some o => (match entersK F (opv T st1.env) o.op with
          | some (g, args) => bif dstOK st1 o.dst && o.guard.isNone then C g args st1.heap fun v h =>
              opsC T F (linF (masks ops.toList) p (linA (masks ops.toList) p ((lineup F ops.toList 0 nid0).take q))) st1 h
                (opsL T F (linB (masks ops.toList) p ((lineup F ops.toList 0 nid0).take q)) (st1.put o.dst v h) ra fun st2 rc => bif pairG ops (masks ops.toList) rc then
                  opsD T F C (masks ops.toList) ops.toList (ops.toList.drop q) (nid0 + makers F (ops.toList.take q)) st2 (blanks q) (fun st rc => bif dynAll (masks ops.toList) rc rc 0 then K st else none) else none) else none
          | none => none)
        | none => none)
      else none
  else none

inductive EX where
  | normal | exit (id : Nat) | ret
/-- What is kept at a place where ways meet: slots, and how much of what is held; slots and cells whose nil is to be a list of its own. -/
structure Cl where
  keep : List Nat
  hl : Nat
  ad : List (Nat × Ty × TypeId) := []
  adc : List (Nat × Nat × Ty × TypeId) := []
  bump : List Nat := []
  sw : List (Nat × Nat) := []
  dm : List (Nat × Nat × Ty) := []
  dmc : List (Nat × Nat × Ty) := []
  pad : Bool := false
  swc : List (Nat × Nat × Nat) := []
inductive Hint where
  | no
  | sq (a b : Hint)
  | ct (c x : Cl) (i : Nat) (a b : Hint)
  | lp (c x : Cl) (i : Nat) (a : Hint)
  | pr
  | fl (p q : Nat)
  | un (n : Nat) (a : Hint)
/-- Which function, among operations that stand in no order with it, and up to where. -/
def Hint.isFl : Hint → Option (Nat × Nat)
  | .fl p q => some (p, q)
  | _ => none
/-- A way that is not gone: nothing is said of it. -/
def Hint.isPr : Hint → Bool
  | .pr => true
  | _ => false
theorem pr_some {α : Type} {b : Bool} {x : Option α} {r : α} (h : (bif b then none else x) = some r) : x = some r := by
  cases b with
  | true => cases h
  | false => exact h
def Hint.l : Hint → Hint
  | .sq a _ => a
  | .ct _ _ _ a _ => a
  | .lp _ _ _ a => a
  | h => h
def Hint.r : Hint → Hint
  | .sq _ b => b
  | .ct _ _ _ _ b => b
  | h => h
/-- Numbers of lists begin anew where ways meet; a list that has been left alone keeps its number, any other has one greater than that at the beginning of the function. -/
def newVer (bump v0 : List Nat) (i g : Nat) : Nat := match v0[i]? with | some v => bif Nat.beq g v && !memN bump i then v else v + 1 | none => 1
def nowAt (h : List HE) (hl i g : Nat) : Bool := bif Nat.blt i hl then (match h[i]? with | some (.lst _ _ _ g' _) => Nat.beq g g' | _ => false) else false
def AV.meet0 (h : List HE) (nv : Nat → Nat → Nat) (hl : Nat) : AV → AV
  | .own i g => bif nowAt h hl i g then .own i (nv i g) else .junk
  | .eptr i g sz k off => bif nowAt h hl i g then .eptr i (nv i g) sz k off else .junk
  | .ptr i off => bif Nat.blt i hl then .ptr i off else .junk
  | .mpv i => bif Nat.blt i hl then .mpv i else .junk
  | .bs i off n cp => bif Nat.blt i hl then .bs i off n cp else .junk
  | .agg _ => .junk
  | .tup _ => .junk
  | .fn _ _ _ => .junk
  | .vw _ _ _ _ _ => .junk
  | c => c
def AV.meet (h : List HE) (nv : Nat → Nat → Nat) (hl : Nat) : AV → AV
  | .agg cs => .agg (cs.map (AV.meet0 h nv hl))
  | .tup cs => .tup (cs.map (AV.meet0 h nv hl))
  | .fn f a b => .fn f (a.map (AV.meet0 h nv hl)) (b.map (AV.meet0 h nv hl))
  | c => c.meet0 h nv hl
def meetHeap (h : List HE) (nv : Nat → Nat → Nat) (hl : Nat) : List HE → Nat → List HE
  | [], _ => []
  | e :: r, i => (match e with
    | .blk cs => .blk (cs.map (AV.meet h nv hl))
    | .lst t e nl g l => .lst t e nl (nv i g) l
    | .dead 0 => .dead 0
    | .dead g => .dead (nv i g)
    | e => e) :: meetHeap h nv hl r (i + 1)
def zipK : List Nat → List AV → List (Nat × AV)
  | i :: ks, v :: vs => (i, v) :: zipK ks vs
  | _, _ => []
def mkSt (n : Nat) (v0 : List Nat) (keep : List Nat) (vals : List AV) (heap : List HE) : St := { n := n, env := zipK keep vals, heap := heap, v0 := v0 }
/-- How much is kept: no more than there is. -/
def Cl.cut (c : Cl) (st : St) : Nat := bif Nat.ble c.hl st.heap.length then c.hl else st.heap.length
/-! Two ids change places: a variable that is made anew in each round gets its old number. -/
def swpI (a b i : Nat) : Nat := bif Nat.beq i a then b else bif Nat.beq i b then a else i
def swpL {α : Type} (a b : Nat) (l : List α) : List α := match l[a]?, l[b]? with
  | some x, some y => (l.set a y).set b x
  | _, _ => l
def AV.swp0 (a b : Nat) : AV → AV
  | .own i g => .own (swpI a b i) g
  | .eptr i g sz k off => .eptr (swpI a b i) g sz k off
  | .ptr i off => .ptr (swpI a b i) off
  | .mpv i => .mpv (swpI a b i)
  | .bs i off n cp => .bs (swpI a b i) off n cp
  | .agg _ => .junk
  | .tup _ => .junk
  | .fn _ _ _ => .junk
  | .vw _ _ _ _ _ => .junk
  | c => c
def AV.swp (a b : Nat) : AV → AV
  | .agg cs => .agg (cs.map (AV.swp0 a b))
  | .tup cs => .tup (cs.map (AV.swp0 a b))
  | .fn f x y => .fn f (x.map (AV.swp0 a b)) (y.map (AV.swp0 a b))
  | c => c.swp0 a b
def HE.swp (a b : Nat) : HE → HE
  | .blk cs => .blk (cs.map (AV.swp a b))
  | .itr i s l c => .itr (swpI a b i) s l c
  | e => e
def swpE (a b : Nat) : List (Nat × AV) → List (Nat × AV)
  | [] => []
  | p :: r => (p.1, p.2.swp a b) :: swpE a b r
def St.swp (a b : Nat) (st : St) : St := { st with env := swpE a b st.env, heap := swpL a b (st.heap.map (HE.swp a b)) }
def AV.swI : AV → Option Nat
  | .ptr i _ => some i
  | .own i _ => some i
  | _ => none
def canon : List (Nat × Nat) → St → St
  | [], st => st
  | (s, t) :: r, st => match (look st.env s).swI with
    | some i => bif !Nat.beq i t && Nat.ble st.v0.length i && Nat.ble st.v0.length t && Nat.blt i st.heap.length && Nat.blt t st.heap.length then canon r (st.swp i t) else canon r st
    | none => canon r st
/-- So does a list that a variable's cell has anew. -/
def cellAt (h : List HE) (b j : Nat) : AV := match h[b]? with
  | some (.blk cs) => (match cs[j]? with | some c => c | none => .junk)
  | _ => .junk
def canonC : List (Nat × Nat × Nat) → St → St
  | [], st => st
  | (b, j, t) :: r, st => match (cellAt st.heap b j).swI with
    | some i => bif !Nat.beq i t && Nat.ble st.v0.length i && Nat.ble st.v0.length t && Nat.blt i st.heap.length && Nat.blt t st.heap.length then canonC r (st.swp i t) else canonC r st
    | none => canonC r st
/-- A list of its own is given up: it is data from here on. -/
def thaw (τ : Ty) (h : List HE) : AV → Option (AV × Nat × HE)
  | .nils => some (.sl τ true [], h.length, .dead 0)
  | .slz nl => some (.sl τ nl [], h.length, .dead 0)
  | .own i g => match h[i]? with
    | some (.lst t _ nl g' l) => bif Nat.beq g g' then some (.sl t nl l, i, .dead (g + 1)) else none
    | _ => none
  | _ => none
/-- Windows that a function hands back: their lists are given up. -/
def thawR : List AV → List HE → List AV × List HE
  | [], h => ([], h)
  | c :: r, h => match c with
    | .vw i g z k n => (match h[i]? with
      | some (.lst t _ nl g' l) => bif Nat.beq g g' && Nat.beq t.size z then (.sl t (nl && l.isEmpty) ((l.drop k.toNat).take n.toNat) :: (thawR r (h.set i (.dead (g + 1)))).1, (thawR r (h.set i (.dead (g + 1)))).2) else (.junk :: (thawR r h).1, (thawR r h).2)
      | _ => (.junk :: (thawR r h).1, (thawR r h).2))
    | c => (c :: (thawR r h).1, (thawR r h).2)
def demE : List (Nat × Nat × Ty) → St → St
  | [], st => st
  | (s, j, τ) :: r, st => match look st.env s with
    | .agg cs => (match cs[j]? with
      | some c => (match thaw τ st.heap c with
        | some (c', i, e) => demE r { st with env := (s, .agg (cs.set j c')) :: st.env, heap := st.heap.set i e }
        | none => demE r st)
      | none => demE r st)
    | c => (match thaw τ st.heap c with
      | some (c', i, e) => demE r { st with env := (s, c') :: st.env, heap := st.heap.set i e }
      | none => demE r st)
def demC : List (Nat × Nat × Ty) → St → St
  | [], st => st
  | (id, j, τ) :: r, st => match st.heap[id]? with
    | some (.blk cs) => (match cs[j]? with
      | some c => (match thaw τ st.heap c with
        | some (c', i, e) => demC r { st with heap := (st.heap.set i e).set id (.blk (cs.set j c')) }
        | none => demC r st)
      | none => demC r st)
    | _ => demC r st
/-- Where less is held than is kept, nothing stands in the place of the rest. -/
def padTo (n : Nat) (st : St) : St := { st with heap := st.heap ++ List.replicate (n - st.heap.length) (.dead 0) }
def prep (c : Cl) (st : St) : St := padTo (bif c.pad then c.hl else 0) (demC c.dmc (demE c.dm (canonC c.swc (canon c.sw st))))
def itrsOK (hl : Nat) : List HE → Bool
  | [] => true
  | .itr i _ _ _ :: r => bif Nat.blt i hl then itrsOK hl r else false
  | _ :: r => itrsOK hl r
def cleanV (c : Cl) (st : St) : Option (List AV × List HE) :=
  bif Nat.ble st.v0.length (c.cut st) && itrsOK (c.cut st) (st.heap.take (c.cut st)) then
    some (c.keep.map fun i => (look st.env i).meet st.heap (newVer c.bump st.v0) (c.cut st), meetHeap st.heap (newVer c.bump st.v0) (c.cut st) (st.heap.take (c.cut st)) 0)
  else none
def clean (c : Cl) (st : St) : Option St := match cleanV c (prep c st) with
  | some p => some (mkSt st.n st.v0 c.keep p.1 p.2)
  | none => none
def adoptEnv : List (Nat × Ty × TypeId) → St → Option St
  | [], st => some st
  | (i, τ, e) :: r, st => match look st.env i with
    | .nils => adoptEnv r { st with env := (i, .own st.heap.length 1) :: st.env, heap := st.heap ++ [.lst τ e true 1 []] }
    | _ => adoptEnv r st
def adoptCells : List (Nat × Nat × Ty × TypeId) → St → Option St
  | [], st => some st
  | (id, j, τ, e) :: r, st => match st.heap[id]? with
    | some (.blk cs) => (match cs[j]? with
      | some .nils => adoptCells r { st with heap := st.heap.set id (.blk (cs.set j (.own st.heap.length 1))) ++ [.lst τ e true 1 []] }
      | _ => adoptCells r st)
    | _ => adoptCells r st
def enterV (c : Cl) (st : St) : Option (List AV × List HE) := match adoptEnv c.ad st with
  | some st => match adoptCells c.adc st with
    | some st => cleanV c (prep c st)
    | none => none
  | none => none
/-- Back at a loop's beginning: what is nil, and is a list of its own at the beginning, becomes one. -/
def backC (c : Cl) (st : St) : Option St := match adoptEnv c.ad st with
  | some st => match adoptCells c.adc st with
    | some st => clean c st
    | none => none
  | none => none
def iter (c x : Cl) (body : St → (EX → St → Option R) → Option R) : Nat → St → (EX → St → Option R) → Option R
  | 0, _, _ => none
  | k + 1, st, K => body st fun e st => match e with
    | .normal => optb (backC c st) fun st => iter c x body k st K
    | e => optb (clean x st) fun st => K e st
/-- A loop of a few rounds, one behind the other. -/
def unr (body : St → (EX → St → Option R) → Option R) : Nat → St → (EX → St → Option R) → Option R
  | 0, _, _ => none
  | k + 1, st, K => body st fun e st => match e with
    | .normal => unr body k st K
    | e => K e st
/-- Loops, and what lies behind places where ways meet: told beside. -/
abbrev CutK (R : Type) := Nat → Nat → List Nat → List AV → List HE → (EX → St → Option R) → Option R
def reserve (F : PT) (ops : List Oper) (st : St) : St := { st with heap := st.heap ++ List.replicate (makers F ops) (.dead 0) }
noncomputable def ev (T : Tab) (F : PT) (C : CallK R) (O : CutK R) : Code → Hint → St → (EX → St → Option R) → Option R
  | .skip, _, st, K => K .normal st
  | .label _, _, st, K => K .normal st
  | .region _ ops draw, hi, st, K => bif draw then (match hi.isFl with | some pq => opsG T F C ops pq.1 pq.2 st.heap.length (reserve F ops.toList st) (K .normal) | none => bif staticOK ops then opsD T F C (masks ops.toList) ops.toList ops.toList st.heap.length (reserve F ops.toList st) [] fun st rc => bif dynAll (masks ops.toList) rc rc 0 then K .normal st else none else none) else opsK T F C ops.toList ops.toList st.heap.length (reserve F ops.toList st) (K .normal)
  | .seq a b, hi, st, K => ev T F C O a hi.l st fun e st => match e with
    | .normal => (match hi with
      | .ct c _ i _ _ => optb (enterV c st) fun p => O i st.n st.v0 p.1 p.2 K
      | _ => ev T F C O b hi.r st K)
    | e => K e st
  | .cond c a b, hi, st, K => match c with
    | .tmp d => (match look st.env d with
      | .bool t => bif t then (bif hi.l.isPr then none else ev T F C O a hi.l (st.know d true) K) else (bif hi.r.isPr then none else ev T F C O b hi.r (st.know d false) K)
      | _ => none)
    | .const (.bool t) => bif t then ev T F C O a hi.l st K else ev T F C O b hi.r st K
    | _ => none
  | .block id c, hi, st, K => ev T F C O c hi st fun e st => match e with
    | .exit j => bif Nat.beq j id then K .normal st else K (.exit j) st
    | e => K e st
  | .loop c, hi, st, K => match hi with
    | .lp cl _ i _ => optb (enterV cl st) fun p => O i st.n st.v0 p.1 p.2 K
    | .un n h => unr (ev T F C O c h) n st K
    | _ => none
  | .exit id, _, st, K => K (.exit id) st
  | .ret, _, st, K => K .ret st
  | _, _, _, _ => none
/-- What is told beside, piece by piece. -/
inductive Ob where
  | join (c x : Cl) (i : Nat) (b : Code) (h : Hint)
  | loop (c x : Cl) (i : Nat) (b : Code) (h : Hint)
def obs : Code → Hint → List Ob
  | .seq a b, hi => obs a hi.l ++ ((match hi with | .ct c x i _ _ => [Ob.join c x i b hi.r] | _ => []) ++ obs b hi.r)
  | .cond _ a b, hi => obs a hi.l ++ obs b hi.r
  | .block _ c, hi => obs c hi
  | .loop c, hi => match hi with
    | .lp cl x i h => Ob.loop cl x i c h :: obs c h
    | .un _ h => obs c h
    | _ => []
  | _, _ => []
def ObOK (T : Tab) (F : PT) (C : CallK R) (O : CutK R) : Ob → Prop
  | .join c x i b h => ∀ (K : EX → St → Option R) (n : Nat) (v0 : List Nat) (vals : List AV) (heap : List HE) (r : R), O i n v0 vals heap K = some r → ev T F C O b h (mkSt n v0 c.keep vals heap) (fun e st => optb (clean x st) fun st => K e st) = some r
  | .loop c x i b h => ∀ (K : EX → St → Option R) (n : Nat) (v0 : List Nat) (vals : List AV) (heap : List HE) (r : R), O i n v0 vals heap K = some r → ∃ k, iter c x (ev T F C O b h) k (mkSt n v0 c.keep vals heap) K = some r
def obCl (l : List Ob) (i : Nat) : Cl := match l[i]? with | some (.join c _ _ _ _) => c | some (.loop c _ _ _ _) => c | _ => { keep := [], hl := 0 }
def obX (l : List Ob) (i : Nat) : Cl := match l[i]? with | some (.loop _ x _ _ _) => x | some (.join _ x _ _ _) => x | _ => { keep := [], hl := 0 }
def obB (l : List Ob) (i : Nat) : Code := match l[i]? with | some (.join _ _ _ b _) => b | some (.loop _ _ _ b _) => b | _ => .skip
def obH (l : List Ob) (i : Nat) : Hint := match l[i]? with | some (.join _ _ _ _ h) => h | some (.loop _ _ _ _ h) => h | _ => .no
def bodyOf (fn : Func) : Code := fn.body.getD .skip
/-- The results of a body. -/
def resK (T : Tab) (st : St) : List ResultVar → (List AV → Option R) → Option R
  | [], K => K []
  | .tmp t :: r, K => resK T st r fun vs => K (look st.env t :: vs)
  | .cell a t :: r, K => match T t with
    | some i => behindK st.heap (look st.env a) fun cs => partK i cs fun v => resK T st r fun vs => K (v :: vs)
    | none => none
def number : Nat → List AV → List (Nat × AV)
  | _, [] => []
  | i, v :: r => (i, v) :: number (i + 1) r
def startSt (fn : Func) (args : List AV) (h : List HE) : St := { n := max args.length fn.ntmps, env := number 0 args, heap := h, v0 := h.map HE.ver }
/-- A body, entered with arguments. -/
noncomputable def bodyK (T : Tab) (F : PT) (C : CallK R) (O : CutK R) (hi : Hint) (fn : Func) (args : List AV) (h : List HE) (K : List AV → List HE → Option R) : Option R := match fn.body with
  | some c => ev T F C O c hi (startSt fn args h) fun e st => match e with
    | .exit _ => none
    | _ => resK T st fn.results.toList fun vs => K vs st.heap
  | none => none
end

end Go.Proofs.YtibdnfknokkadaaDoor.Ev
