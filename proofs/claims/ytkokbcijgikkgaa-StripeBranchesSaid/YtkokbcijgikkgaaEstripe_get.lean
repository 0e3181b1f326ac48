/- stripe_get, told on plain data. Written by program. -/
import Derived.Test.YtkokbcijgikkgaaEtab
set_option linter.unusedVariables false
set_option maxRecDepth 1000000
namespace Go.Proofs.Ytkokbcijgikkgaa.Ev
open Go Go.RowKit Go.Proofs
def stripe_get_j0 {R : Type} (e0 : Bool → List ByteArray → Int → ByteArray → Bool → Option R) (e1 : Bool → List ByteArray → Int → ByteArray → Option R) (k : Nat) (v_1004 : Bool) (v_1005 : List ByteArray) (v_1006 : Int) (v_1007 : ByteArray) (v_1008 : Bool) : Option R :=
  bif v_1008 then
    e0 v_1004 v_1005 v_1006 v_1007 false
  else e1 v_1004 v_1005 v_1006 v_1007
def stripe_get_k0 (k : Nat) : Bool → List ByteArray → Int → ByteArray → Bool → Option (ByteArray × Bool) := fun v_1009 v_1010 v_1011 v_1012 v_1013 =>
  some (v_1012, v_1013)
def stripe_get_k1 (k : Nat) : Bool → List ByteArray → Int → ByteArray → Option (ByteArray × Bool) := fun v_1014 v_1015 v_1016 v_1017 =>
  bif (decide ((0 : Int) ≤ v_1016)) then
    optb (v_1015[v_1016.toNat]?) fun x_1018 =>
    some (x_1018, true)
  else none
def stripe_get (k : Nat) (a0 : Bool) (a1 : List ByteArray) (a2 : Int) : Option (ByteArray × Bool) :=
  bif (decide (a2 < (0 : Int))) then
    stripe_get_j0 (stripe_get_k0 k) (stripe_get_k1 k) k a0 a1 a2 (⟨#[]⟩ : ByteArray) true
  else stripe_get_j0 (stripe_get_k0 k) (stripe_get_k1 k) k a0 a1 a2 (⟨#[]⟩ : ByteArray) (decide ((lenI a1) ≤ a2))
def stripe_get_p (k : Nat) : PF := { ps := [(false, 1), (false, 1)], rs := [(false, 1), (false, 1)], τ := (.pair (.sl .str) (.int .i64)), σ := (.pair .str .bool), f := fun x => stripe_get k x.1.1 x.1.2 x.2 }
def stripe_get_F (k : Nat) : PT := fnone
theorem stripe_get_fok (k : Nat) : FOK Try.prog tab (stripe_get_F k) := fok_none
def stripe_get_c0 : Cl := { keep := [0, 1, 4, 13], hl := 0, ad := [], adc := [], bump := [] }
def stripe_get_x0 : Cl := { keep := [0, 1, 4, 5], hl := 0, ad := [], adc := [], bump := [] }
def stripe_get_h : Hint := (.sq .no (.sq (.ct stripe_get_c0 stripe_get_x0 0 .no .no) .no))
def stripe_get_j0_E0 {R : Type} (K : EX → St → Option R) : Bool → List ByteArray → Int → ByteArray → Bool → Option R := fun v0 v1 v2 v3 v4 => K .ret (mkSt 19 [] stripe_get_x0.keep [.sl .str v0 v1, .int .i64 v2, .str v3, .bool v4] [])
def stripe_get_j0_E1 {R : Type} (K : EX → St → Option R) : Bool → List ByteArray → Int → ByteArray → Option R := fun v0 v1 v2 v3 => K .normal (mkSt 19 [] stripe_get_x0.keep [.sl .str v0 v1, .int .i64 v2, .str v3, .junk] [])
def stripe_get_j0_S (v_1004 : Bool) (v_1005 : List ByteArray) (v_1006 : Int) (v_1007 : ByteArray) (v_1008 : Bool) : St := mkSt 19 [] stripe_get_c0.keep [.sl .str v_1004 v_1005, .int .i64 v_1006, .str v_1007, .bool v_1008] []
def stripe_get_j0_sh : Rd (List AV × List HE) := .pair (.cons (.sl .str) (.cons (.int .i64) (.cons .str (.cons .bool Rd.nil)))) Rd.nil
def stripe_get_j0_a {R : Type} (k : Nat) : Alt R := { n := 19, v := [], sh := stripe_get_j0_sh, g := fun K x => stripe_get_j0 (stripe_get_j0_E0 K) (stripe_get_j0_E1 K) k x.1.1.1 x.1.1.2 x.1.2.1 x.1.2.2.1 x.1.2.2.2.1 }
def stripe_get_O {R : Type} (k : Nat) : CutK R := cutsO [[stripe_get_j0_a k]]
noncomputable def stripe_get_b : List Ob := obs (bodyOf Try.f54) stripe_get_h
noncomputable def stripe_get_I {R : Type} (k : Nat) : InlT R := inone
theorem stripe_get_j0_eq {R : Type} (k : Nat) (K : EX → St → Option R) (v_1004 : Bool) (v_1005 : List ByteArray) (v_1006 : Int) (v_1007 : ByteArray) (v_1008 : Bool) : stripe_get_j0 (stripe_get_j0_E0 K) (stripe_get_j0_E1 K) k v_1004 v_1005 v_1006 v_1007 v_1008 = ev tab (stripe_get_F k) (inlK tab (stripe_get_F k) (stripe_get_I k) 0) (stripe_get_O k) (obB stripe_get_b 0) (obH stripe_get_b 0) (stripe_get_j0_S v_1004 v_1005 v_1006 v_1007 v_1008) (fun e st => optb (clean stripe_get_x0 st) fun st => K e st) := by kernel_rfl
theorem stripe_get_j0_ok {R : Type} (k : Nat)  : ObOK (R := R) tab (stripe_get_F k) (inlK tab (stripe_get_F k) (stripe_get_I k) 0) (stripe_get_O k) (.join stripe_get_c0 stripe_get_x0 0 (obB stripe_get_b 0) (obH stripe_get_b 0)) :=
  join_ok (l := [stripe_get_j0_a k]) (by kernel_rfl) ⟨(fun K x => (stripe_get_j0_eq k K x.1.1.1 x.1.1.2 x.1.2.1 x.1.2.2.1 x.1.2.2.2.1).trans (by kernel_rfl)), trivial⟩
theorem stripe_get_cuts {R : Type} (k : Nat) : ∀ c, Try.f54.body = some c → CutsOK (R := R) tab (stripe_get_F k) (inlK tab (stripe_get_F k) (stripe_get_I k) 0) (stripe_get_O k) c stripe_get_h :=
  cuts_of (l := [.join stripe_get_c0 stripe_get_x0 0 (obB stripe_get_b 0) (obH stripe_get_b 0)]) (by kernel_rfl) ⟨stripe_get_j0_ok k, trivial⟩
theorem stripe_get_iok {R : Type} (k : Nat) : IOK Try.prog tab (stripe_get_F k) (stripe_get_I (R := R) k) := iok_none
theorem stripe_get_ev (k : Nat) (x : (stripe_get_p k).τ.den) : evalF tab (stripe_get_F k) (stripe_get_p k) (stripe_get_I k) 0 (stripe_get_O k) stripe_get_h Try.f54 x = (stripe_get_p k).f x := by kernel_rfl
theorem stripe_get_ok (k : Nat) : PFOK Try.prog tab 54 (stripe_get_p k) := pfok mixed tabOK (stripe_get_fok k) Try.func54 (I := stripe_get_I k) (d := 0) (stripe_get_iok k) (Q := stripe_get_O k) (hi := stripe_get_h) (stripe_get_cuts k) (stripe_get_ev k)
end Go.Proofs.Ytkokbcijgikkgaa.Ev
