/- stripe_get, told on plain data. Written by program. -/
import Derived.Test.YtbgcfcojepfdbaaEtab
set_option linter.unusedVariables false
set_option maxRecDepth 1000000
namespace Go.Proofs.Ytbgcfcojepfdbaa.Ev
open Go Go.RowKit Go.Proofs
def stripe_get_j0 {R : Type} (e0 : Bool → Option R) (e1 : Option R) (k : Nat) (v_2486 : Bool) : Option R :=
  bif v_2486 then
    e0 false
  else e1
def stripe_get_k0 (k : Nat) : Bool → Option (ByteArray × Bool) := fun ok_2491 =>
  some ((⟨#[]⟩ : ByteArray), ok_2491)
def stripe_get_k1 (k : Nat) (k_2481 : Int) (lb_2480 : List ByteArray) : Option (ByteArray × Bool) := 
  bif (decide ((0 : Int) ≤ k_2481)) then
    optb (lb_2480[k_2481.toNat]?) fun x_2496 =>
    some (x_2496, true)
  else none
def stripe_get (k : Nat) (la_2479 : Bool) (lb_2480 : List ByteArray) (k_2481 : Int) : Option (ByteArray × Bool) :=
  bif (decide (k_2481 < (0 : Int))) then
    stripe_get_j0 (stripe_get_k0 k) (stripe_get_k1 k k_2481 lb_2480) k true
  else stripe_get_j0 (stripe_get_k0 k) (stripe_get_k1 k k_2481 lb_2480) k (decide ((lenI lb_2480) ≤ k_2481))
def stripe_get_p (k : Nat) : PF := { ps := [(false, 1), (false, 1)], rs := [(false, 1), (false, 1)], τ := (.pair (.sl .str) (.int .i64)), σ := (.pair .str .bool), f := fun x => stripe_get k x.1.1 x.1.2 x.2 }
def stripe_get_F (k : Nat) : PT := fnone
theorem stripe_get_fok (k : Nat) : FOK Try.prog tab (stripe_get_F k) := fok_none
def stripe_get_c0 : Cl := { keep := [0, 1, 4, 13], hl := 0, ad := [], adc := [], bump := [] }
def stripe_get_x0 : Cl := { keep := [0, 1, 4, 5], hl := 0, ad := [], adc := [], bump := [] }
def stripe_get_h : Hint := (.sq .no (.sq (.ct stripe_get_c0 stripe_get_x0 0 .no .no) .no))
def stripe_get_j0_E0 {R : Type} (K : EX → St → Option R) : Bool → List ByteArray → Int → ByteArray → Bool → Option R := fun v0 v1 v2 v3 v4 => K .ret (mkSt 19 [] stripe_get_x0.keep [.sl .str v0 v1, .int .i64 v2, .str v3, .bool v4] [])
def stripe_get_j0_E1 {R : Type} (K : EX → St → Option R) : Bool → List ByteArray → Int → ByteArray → Option R := fun v0 v1 v2 v3 => K .normal (mkSt 19 [] stripe_get_x0.keep [.sl .str v0 v1, .int .i64 v2, .str v3, .junk] [])
def stripe_get_j0_S (la_2482 : Bool) (lb_2483 : List ByteArray) (k_2484 : Int) (x_2485 : ByteArray) (v_2486 : Bool) : St := mkSt 19 [] stripe_get_c0.keep [.sl .str la_2482 lb_2483, .int .i64 k_2484, .str x_2485, .bool v_2486] []
def stripe_get_j0_sh : Rd (List AV × List HE) := .pair (.cons (.sl .str) (.cons (.int .i64) (.cons .str (.cons .bool Rd.nil)))) Rd.nil
def stripe_get_j0_a {R : Type} (k : Nat) : Alt R := { n := 19, v := [], sh := stripe_get_j0_sh, g := fun K x => stripe_get_j0 (fun y4 => stripe_get_j0_E0 K x.1.1.1 x.1.1.2 x.1.2.1 x.1.2.2.1 y4) (stripe_get_j0_E1 K x.1.1.1 x.1.1.2 x.1.2.1 x.1.2.2.1) k x.1.2.2.2.1 }
def stripe_get_O {R : Type} (k : Nat) : CutK R := cutsO [[stripe_get_j0_a k]]
noncomputable def stripe_get_b : List Ob := obs (bodyOf Try.f37) stripe_get_h
noncomputable def stripe_get_I {R : Type} (k : Nat) : InlT R := inone
theorem stripe_get_j0_eq {R : Type} (k : Nat) (K : EX → St → Option R) (la_2482 : Bool) (lb_2483 : List ByteArray) (k_2484 : Int) (x_2485 : ByteArray) (v_2486 : Bool) : stripe_get_j0 (fun y4 => stripe_get_j0_E0 K la_2482 lb_2483 k_2484 x_2485 y4) (stripe_get_j0_E1 K la_2482 lb_2483 k_2484 x_2485) k v_2486 = ev tab (stripe_get_F k) (inlK tab (stripe_get_F k) (stripe_get_I k) 0) (stripe_get_O k) (obB stripe_get_b 0) (obH stripe_get_b 0) (stripe_get_j0_S la_2482 lb_2483 k_2484 x_2485 v_2486) (fun e st => optb (clean stripe_get_x0 st) fun st => K e st) := by kernel_rfl
theorem stripe_get_j0_ok {R : Type} (k : Nat)  : ObOK (R := R) tab (stripe_get_F k) (inlK tab (stripe_get_F k) (stripe_get_I k) 0) (stripe_get_O k) (.join stripe_get_c0 stripe_get_x0 0 (obB stripe_get_b 0) (obH stripe_get_b 0)) :=
  join_ok (l := [stripe_get_j0_a k]) (by kernel_rfl) ⟨(fun K x => (stripe_get_j0_eq k K x.1.1.1 x.1.1.2 x.1.2.1 x.1.2.2.1 x.1.2.2.2.1).trans (by kernel_rfl)), trivial⟩
theorem stripe_get_cuts {R : Type} (k : Nat) : ∀ c, Try.f37.body = some c → CutsOK (R := R) tab (stripe_get_F k) (inlK tab (stripe_get_F k) (stripe_get_I k) 0) (stripe_get_O k) c stripe_get_h :=
  cuts_of (l := [.join stripe_get_c0 stripe_get_x0 0 (obB stripe_get_b 0) (obH stripe_get_b 0)]) (by kernel_rfl) ⟨stripe_get_j0_ok k, trivial⟩
theorem stripe_get_iok {R : Type} (k : Nat) : IOK Try.prog tab (stripe_get_F k) (stripe_get_I (R := R) k) := iok_none
theorem stripe_get_ev (k : Nat) (x : (stripe_get_p k).τ.den) : evalF tab (stripe_get_F k) (stripe_get_p k) (stripe_get_I k) 0 (stripe_get_O k) stripe_get_h Try.f37 x = (stripe_get_p k).f x := by kernel_rfl
theorem stripe_get_ok (k : Nat) : PFOK Try.prog tab 37 (stripe_get_p k) := pfok mixed tabOK (stripe_get_fok k) Try.func37 (I := stripe_get_I k) (d := 0) (stripe_get_iok k) (Q := stripe_get_O k) (hi := stripe_get_h) (stripe_get_cuts k) (stripe_get_ev k)
end Go.Proofs.Ytbgcfcojepfdbaa.Ev
