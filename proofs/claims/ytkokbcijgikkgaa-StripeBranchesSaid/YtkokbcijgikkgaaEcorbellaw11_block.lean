/- corbellaw11_block, told on plain data. Written by program. -/
import Derived.Test.YtkokbcijgikkgaaEtab
set_option linter.unusedVariables false
set_option maxRecDepth 1000000
namespace Go.Proofs.Ytkokbcijgikkgaa.Ev
open Go Go.RowKit Go.Proofs
def corbellaw11_block (k : Nat) (a0 : ByteArray) (a1 : Bool) : Option ByteArray :=
  bif a1 then
    let z_856 := (bif (decide ((200 : Int) < (sizeI a0))) then (200 : Int) else (sizeI a0))
    bif ((decide ((0 : Int) ≤ z_856)) && (decide (z_856 ≤ (sizeI a0)))) then
      some (a0.extract (0 : Int).toNat z_856.toNat)
    else none
  else let z_857 := (List.replicate (64 : Int).toNat (Ty.zero (.int .u8)))
  bif (decide (a0.size + (bytesOf z_857).size ≤ 4611686018427387904)) then
    bif (decide ((64 : Int) ≤ (sizeI (a0 ++ (bytesOf z_857))))) then
      some ((a0 ++ (bytesOf z_857)).extract (0 : Int).toNat (64 : Int).toNat)
    else none
  else none
def corbellaw11_block_p (k : Nat) : PF := { ps := [(false, 1), (false, 1)], rs := [(false, 1)], τ := (.pair .str .bool), σ := .str, f := fun x => corbellaw11_block k x.1 x.2 }
def corbellaw11_block_F (k : Nat) : PT := fnone
theorem corbellaw11_block_fok (k : Nat) : FOK Try.prog tab (corbellaw11_block_F k) := fok_none
def corbellaw11_block_h : Hint := .no
def corbellaw11_block_O {R : Type} (k : Nat) : CutK R := cutsO []
noncomputable def corbellaw11_block_I {R : Type} (k : Nat) : InlT R := inone
theorem corbellaw11_block_iok {R : Type} (k : Nat) : IOK Try.prog tab (corbellaw11_block_F k) (corbellaw11_block_I (R := R) k) := iok_none
theorem corbellaw11_block_ev (k : Nat) (x : (corbellaw11_block_p k).τ.den) : evalF tab (corbellaw11_block_F k) (corbellaw11_block_p k) (corbellaw11_block_I k) 0 (corbellaw11_block_O k) corbellaw11_block_h Try.f40 x = (corbellaw11_block_p k).f x := by kernel_rfl
theorem corbellaw11_block_ok (k : Nat) : PFOK Try.prog tab 40 (corbellaw11_block_p k) := pfok mixed tabOK (corbellaw11_block_fok k) Try.func40 (I := corbellaw11_block_I k) (d := 0) (corbellaw11_block_iok k) (Q := corbellaw11_block_O k) (hi := corbellaw11_block_h) (cuts_of (l := []) (by kernel_rfl) trivial) (corbellaw11_block_ev k)
end Go.Proofs.Ytkokbcijgikkgaa.Ev
