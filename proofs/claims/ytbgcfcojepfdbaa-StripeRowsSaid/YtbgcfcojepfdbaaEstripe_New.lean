/- stripe_New, told on plain data. Written by program. -/
import Derived.Test.YtbgcfcojepfdbaaEtab
set_option linter.unusedVariables false
set_option maxRecDepth 1000000
namespace Go.Proofs.Ytbgcfcojepfdbaa.Ev
open Go Go.RowKit Go.Proofs
def stripe_New_j0 {R : Type} (e0 : Int → Int → Option R) (e1 : Option R) (k : Nat) (v_11 : Bool) : Option R :=
  bif v_11 then
    e0 (1 : Int) (0 : Int)
  else e1
def stripe_New_k0 (k : Nat) : Int → Int → Option ((Int × (Bool × List ByteArray)) × Int) := fun v_14 v_15 =>
  some ((v_15, (true, ([] : List ByteArray))), v_14)
def stripe_New_k1 (k : Nat) (blocks_6 : Int) : Option ((Int × (Bool × List ByteArray)) × Int) := 
  some ((blocks_6, (true, ([] : List ByteArray))), (0 : Int))
def stripe_New (k : Nat) (blocks_6 : Int) : Option ((Int × (Bool × List ByteArray)) × Int) :=
  bif (decide (blocks_6 < (2 : Int))) then
    stripe_New_j0 (stripe_New_k0 k) (stripe_New_k1 k blocks_6) k true
  else stripe_New_j0 (stripe_New_k0 k) (stripe_New_k1 k blocks_6) k (decide ((15 : Int) < blocks_6))
def stripe_New_p (k : Nat) : PF := { ps := [(false, 1)], rs := [(true, 2), (false, 1)], τ := (.int .i64), σ := (.pair (.pair (.int .i64) (.sl .str)) (.int .i64)), f := fun x => stripe_New k x, fr := [none, some 9, none] }
def stripe_New_F (k : Nat) : PT := fnone
theorem stripe_New_fok (k : Nat) : FOK Try.prog tab (stripe_New_F k) := fok_none
def stripe_New_c0 : Cl := { keep := [0, 2, 9], hl := 1, ad := [], adc := [], bump := [] }
def stripe_New_x0 : Cl := { keep := [0, 2, 3], hl := 1, ad := [], adc := [], bump := [] }
def stripe_New_h : Hint := (.sq .no (.sq (.ct stripe_New_c0 stripe_New_x0 0 .no .no) .no))
def stripe_New_j0_E0 {R : Type} (K : EX → St → Option R) : Int → Int → Int → Option R := fun v0 v1 v2 => K .ret (mkSt 13 [] stripe_New_x0.keep [.int .i64 v0, .ptr 0 0, .int .i64 v1] [.blk [.int .i64 v2, .nils]])
def stripe_New_j0_E1 {R : Type} (K : EX → St → Option R) : Int → Int → Option R := fun v0 v1 => K .normal (mkSt 13 [] stripe_New_x0.keep [.int .i64 v0, .ptr 0 0, .junk] [.blk [.int .i64 v1, .nils]])
def stripe_New_j0_S (blocks_10 : Int) (v_11 : Bool) (v_12 : Int) : St := mkSt 13 [] stripe_New_c0.keep [.int .i64 blocks_10, .ptr 0 0, .bool v_11] [.blk [.int .i64 v_12, .nils]]
def stripe_New_j0_sh : Rd (List AV × List HE) := .pair (.cons (.int .i64) (.cons (.ptr 0 0) (.cons .bool Rd.nil))) (.cons (.blk (.cons (.int .i64) (.cons .nils Rd.nil))) Rd.nil)
def stripe_New_j0_a {R : Type} (k : Nat) : Alt R := { n := 13, v := [], sh := stripe_New_j0_sh, g := fun K x => stripe_New_j0 (fun y1 y2 => stripe_New_j0_E0 K x.1.1 y1 y2) (stripe_New_j0_E1 K x.1.1 x.2.1.1) k x.1.2.2.1 }
def stripe_New_O {R : Type} (k : Nat) : CutK R := cutsO [[stripe_New_j0_a k]]
noncomputable def stripe_New_b : List Ob := obs (bodyOf Try.f14) stripe_New_h
noncomputable def stripe_New_I {R : Type} (k : Nat) : InlT R := inone
theorem stripe_New_j0_eq {R : Type} (k : Nat) (K : EX → St → Option R) (blocks_10 : Int) (v_11 : Bool) (v_12 : Int) : stripe_New_j0 (fun y1 y2 => stripe_New_j0_E0 K blocks_10 y1 y2) (stripe_New_j0_E1 K blocks_10 v_12) k v_11 = ev tab (stripe_New_F k) (inlK tab (stripe_New_F k) (stripe_New_I k) 0) (stripe_New_O k) (obB stripe_New_b 0) (obH stripe_New_b 0) (stripe_New_j0_S blocks_10 v_11 v_12) (fun e st => optb (clean stripe_New_x0 st) fun st => K e st) := by kernel_rfl
theorem stripe_New_j0_ok {R : Type} (k : Nat)  : ObOK (R := R) tab (stripe_New_F k) (inlK tab (stripe_New_F k) (stripe_New_I k) 0) (stripe_New_O k) (.join stripe_New_c0 stripe_New_x0 0 (obB stripe_New_b 0) (obH stripe_New_b 0)) :=
  join_ok (l := [stripe_New_j0_a k]) (by kernel_rfl) ⟨(fun K x => (stripe_New_j0_eq k K x.1.1 x.1.2.2.1 x.2.1.1).trans (by kernel_rfl)), trivial⟩
theorem stripe_New_cuts {R : Type} (k : Nat) : ∀ c, Try.f14.body = some c → CutsOK (R := R) tab (stripe_New_F k) (inlK tab (stripe_New_F k) (stripe_New_I k) 0) (stripe_New_O k) c stripe_New_h :=
  cuts_of (l := [.join stripe_New_c0 stripe_New_x0 0 (obB stripe_New_b 0) (obH stripe_New_b 0)]) (by kernel_rfl) ⟨stripe_New_j0_ok k, trivial⟩
theorem stripe_New_iok {R : Type} (k : Nat) : IOK Try.prog tab (stripe_New_F k) (stripe_New_I (R := R) k) := iok_none
theorem stripe_New_ev (k : Nat) (x : (stripe_New_p k).τ.den) : evalF tab (stripe_New_F k) (stripe_New_p k) (stripe_New_I k) 0 (stripe_New_O k) stripe_New_h Try.f14 x = (stripe_New_p k).f x := by kernel_rfl
theorem stripe_New_ok (k : Nat) : PFOK Try.prog tab 14 (stripe_New_p k) := pfok mixed tabOK (stripe_New_fok k) Try.func14 (I := stripe_New_I k) (d := 0) (stripe_New_iok k) (Q := stripe_New_O k) (hi := stripe_New_h) (stripe_New_cuts k) (stripe_New_ev k)
end Go.Proofs.Ytbgcfcojepfdbaa.Ev
