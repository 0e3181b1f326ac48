/- corbellaw11_block, told on plain data. Written by program. -/
import Derived.Test.YtbgcfcojepfdbaaEtab
set_option linter.unusedVariables false
set_option maxRecDepth 1000000
namespace Go.Proofs.Ytbgcfcojepfdbaa.Ev
open Go Go.RowKit Go.Proofs
def corbellaw11_block (k : Nat) (s_225 : ByteArray) (wrong_226 : Bool) : Option ByteArray :=
  bif wrong_226 then
    let z_228 := (bif (decide ((200 : Int) < (sizeI s_225))) then (200 : Int) else (sizeI s_225))
    bif ((decide ((0 : Int) ≤ z_228)) && (decide (z_228 ≤ (sizeI s_225)))) then
      some (s_225.extract (0 : Int).toNat z_228.toNat)
    else none
  else let z_229 := (List.replicate (64 : Int).toNat (Ty.zero (.int .u8)))
  bif (decide (s_225.size + (bytesOf z_229).size ≤ 4611686018427387904)) then
    bif (decide ((64 : Int) ≤ (sizeI (s_225 ++ (bytesOf z_229))))) then
      some ((s_225 ++ (bytesOf z_229)).extract (0 : Int).toNat (64 : Int).toNat)
    else none
  else none
def corbellaw11_block_p (k : Nat) : PF := { ps := [(false, 1), (false, 1)], rs := [(false, 1)], τ := (.pair .str .bool), σ := .str, f := fun x => corbellaw11_block k x.1 x.2 }
def corbellaw11_block_F (k : Nat) : PT := fnone
theorem corbellaw11_block_fok (k : Nat) : FOK Try.prog tab (corbellaw11_block_F k) := fok_none
def corbellaw11_block_h : Hint := .no
def corbellaw11_block_O {R : Type} (k : Nat) : CutK R := cutsO []
noncomputable def corbellaw11_block_I {R : Type} (k : Nat) : InlT R := inone
theorem corbellaw11_block_iok {R : Type} (k : Nat) : IOK Try.prog tab (corbellaw11_block_F k) (corbellaw11_block_I (R := R) k) := iok_none
theorem corbellaw11_block_ev (k : Nat) (x : (corbellaw11_block_p k).τ.den) : evalF tab (corbellaw11_block_F k) (corbellaw11_block_p k) (corbellaw11_block_I k) 0 (corbellaw11_block_O k) corbellaw11_block_h Try.f11 x = (corbellaw11_block_p k).f x := by kernel_rfl
theorem corbellaw11_block_ok (k : Nat) : PFOK Try.prog tab 11 (corbellaw11_block_p k) := pfok mixed tabOK (corbellaw11_block_fok k) Try.func11 (I := corbellaw11_block_I k) (d := 0) (corbellaw11_block_iok k) (Q := corbellaw11_block_O k) (hi := corbellaw11_block_h) (cuts_of (l := []) (by kernel_rfl) trivial) (corbellaw11_block_ev k)
end Go.Proofs.Ytbgcfcojepfdbaa.Ev
