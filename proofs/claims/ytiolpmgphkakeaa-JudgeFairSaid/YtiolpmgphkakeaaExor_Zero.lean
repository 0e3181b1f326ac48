/- xor_Zero, told on plain data. Written by program. -/
import Derived.Test.YtiolpmgphkakeaaEstrings_Repeat
set_option linter.unusedVariables false
set_option maxRecDepth 1000000
namespace Go.Proofs.Ytiolpmgphkakeaa.Ev
open Go Go.RowKit Go.Proofs
def xor_Zero_j0 {R : Type} (e0 : ByteArray → Option R) (e1 : Option R) (k : Nat) (v_8 : Bool) : Option R :=
  bif v_8 then
    e0 (⟨#[]⟩ : ByteArray)
  else e1
def xor_Zero_k0 (k : Nat) : ByteArray → Option ByteArray := fun v_10 =>
  some v_10
def xor_Zero_k1 (k : Nat) (n_6 : Int) : Option ByteArray := 
  optb (strings_Repeat k (⟨#[0]⟩ : ByteArray) n_6) fun r_12 =>
  some r_12
def xor_Zero (k : Nat) (n_6 : Int) : Option ByteArray :=
  bif (decide (n_6 < (0 : Int))) then
    xor_Zero_j0 (xor_Zero_k0 k) (xor_Zero_k1 k n_6) k true
  else xor_Zero_j0 (xor_Zero_k0 k) (xor_Zero_k1 k n_6) k (decide ((65536 : Int) < n_6))
def xor_Zero_p (k : Nat) : PF := { ps := [(false, 1)], rs := [(false, 1)], τ := (.int .i64), σ := .str, f := fun x => xor_Zero k x }
def xor_Zero_F (k : Nat) : PT := fcons 38 (strings_Repeat_p k) <| fnone
theorem xor_Zero_fok (k : Nat) : FOK Try.prog tab (xor_Zero_F k) := fok_cons (strings_Repeat_ok k) Try.call38 <| fok_none
def xor_Zero_c0 : Cl := { keep := [0, 8], hl := 0, ad := [], adc := [], bump := [] }
def xor_Zero_x0 : Cl := { keep := [0, 2], hl := 0, ad := [], adc := [], bump := [] }
def xor_Zero_h : Hint := (.sq .no (.sq (.ct xor_Zero_c0 xor_Zero_x0 0 .no .no) .no))
def xor_Zero_j0_E0 {R : Type} (K : EX → St → Option R) : Int → ByteArray → Option R := fun v0 v1 => K .ret (mkSt 11 [] xor_Zero_x0.keep [.int .i64 v0, .str v1] [])
def xor_Zero_j0_E1 {R : Type} (K : EX → St → Option R) : Int → Option R := fun v0 => K .normal (mkSt 11 [] xor_Zero_x0.keep [.int .i64 v0, .junk] [])
def xor_Zero_j0_S (n_7 : Int) (v_8 : Bool) : St := mkSt 11 [] xor_Zero_c0.keep [.int .i64 n_7, .bool v_8] []
def xor_Zero_j0_sh : Rd (List AV × List HE) := .pair (.cons (.int .i64) (.cons .bool Rd.nil)) Rd.nil
def xor_Zero_j0_a {R : Type} (k : Nat) : Alt R := { n := 11, v := [], sh := xor_Zero_j0_sh, g := fun K x => xor_Zero_j0 (fun y1 => xor_Zero_j0_E0 K x.1.1 y1) (xor_Zero_j0_E1 K x.1.1) k x.1.2.1 }
def xor_Zero_O {R : Type} (k : Nat) : CutK R := cutsO [[xor_Zero_j0_a k]]
noncomputable def xor_Zero_b : List Ob := obs (bodyOf Try.f32) xor_Zero_h
noncomputable def xor_Zero_I {R : Type} (k : Nat) : InlT R := inone
theorem xor_Zero_j0_eq {R : Type} (k : Nat) (K : EX → St → Option R) (n_7 : Int) (v_8 : Bool) : xor_Zero_j0 (fun y1 => xor_Zero_j0_E0 K n_7 y1) (xor_Zero_j0_E1 K n_7) k v_8 = ev tab (xor_Zero_F k) (inlK tab (xor_Zero_F k) (xor_Zero_I k) 0) (xor_Zero_O k) (obB xor_Zero_b 0) (obH xor_Zero_b 0) (xor_Zero_j0_S n_7 v_8) (fun e st => optb (clean xor_Zero_x0 st) fun st => K e st) := by kernel_rfl
theorem xor_Zero_j0_ok {R : Type} (k : Nat)  : ObOK (R := R) tab (xor_Zero_F k) (inlK tab (xor_Zero_F k) (xor_Zero_I k) 0) (xor_Zero_O k) (.join xor_Zero_c0 xor_Zero_x0 0 (obB xor_Zero_b 0) (obH xor_Zero_b 0)) :=
  join_ok (l := [xor_Zero_j0_a k]) (by kernel_rfl) ⟨(fun K x => (xor_Zero_j0_eq k K x.1.1 x.1.2.1).trans (by kernel_rfl)), trivial⟩
theorem xor_Zero_cuts {R : Type} (k : Nat) : ∀ c, Try.f32.body = some c → CutsOK (R := R) tab (xor_Zero_F k) (inlK tab (xor_Zero_F k) (xor_Zero_I k) 0) (xor_Zero_O k) c xor_Zero_h :=
  cuts_of (l := [.join xor_Zero_c0 xor_Zero_x0 0 (obB xor_Zero_b 0) (obH xor_Zero_b 0)]) (by kernel_rfl) ⟨xor_Zero_j0_ok k, trivial⟩
theorem xor_Zero_iok {R : Type} (k : Nat) : IOK Try.prog tab (xor_Zero_F k) (xor_Zero_I (R := R) k) := iok_none
theorem xor_Zero_ev (k : Nat) (x : (xor_Zero_p k).τ.den) : evalF tab (xor_Zero_F k) (xor_Zero_p k) (xor_Zero_I k) 0 (xor_Zero_O k) xor_Zero_h Try.f32 x = (xor_Zero_p k).f x := by kernel_rfl
theorem xor_Zero_ok (k : Nat) : PFOK Try.prog tab 32 (xor_Zero_p k) := pfok mixed tabOK (xor_Zero_fok k) Try.func32 (I := xor_Zero_I k) (d := 0) (xor_Zero_iok k) (Q := xor_Zero_O k) (hi := xor_Zero_h) (xor_Zero_cuts k) (xor_Zero_ev k)
end Go.Proofs.Ytiolpmgphkakeaa.Ev
