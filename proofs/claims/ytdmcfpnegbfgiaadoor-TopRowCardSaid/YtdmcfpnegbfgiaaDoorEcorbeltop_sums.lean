/- corbeltop_sums, told on plain data. Written by program. -/
import Derived.Test.YtdmcfpnegbfgiaaDoorEnums_Put
import Derived.Test.YtdmcfpnegbfgiaaDoorEcrc_Sum
set_option linter.unusedVariables false
set_option maxRecDepth 1000000
namespace Go.Proofs.YtdmcfpnegbfgiaaDoor.Ev
open Go Go.RowKit Go.Proofs
def corbeltop_sums (k : Nat)  : Option Bool :=
  optb (nums_Put k (258 : Int) (2 : Int)) fun r_322 =>
  bif (decide (r_322 = (⟨#[1, 2]⟩ : ByteArray))) then
    optb (crc_Sum k false ([(⟨#[49, 50, 51, 52, 53, 54, 55, 56, 57]⟩ : ByteArray)] : List ByteArray)) fun r_323 =>
    some (decide (r_323 = (3808858755 : Int)))
  else some false
def corbeltop_sums_p (k : Nat) : PF := { ps := [], rs := [(false, 1)], τ := .bool, σ := .bool, f := fun x => corbeltop_sums k }
def corbeltop_sums_F (k : Nat) : PT := fcons 7 (nums_Put_p k) <| fcons 9 (crc_Sum_p k) <| fnone
theorem corbeltop_sums_fok (k : Nat) : FOK Tryd.prog tab (corbeltop_sums_F k) := fok_cons (nums_Put_ok k) Tryd.call7 <| fok_cons (crc_Sum_ok k) Tryd.call9 <| fok_none
def corbeltop_sums_h : Hint := .no
def corbeltop_sums_O {R : Type} (k : Nat) : CutK R := cutsO []
noncomputable def corbeltop_sums_I {R : Type} (k : Nat) : InlT R := inone
theorem corbeltop_sums_iok {R : Type} (k : Nat) : IOK Tryd.prog tab (corbeltop_sums_F k) (corbeltop_sums_I (R := R) k) := iok_none
theorem corbeltop_sums_ev (k : Nat) (x : (corbeltop_sums_p k).τ.den) : evalF tab (corbeltop_sums_F k) (corbeltop_sums_p k) (corbeltop_sums_I k) 0 (corbeltop_sums_O k) corbeltop_sums_h Tryd.f6 x = (corbeltop_sums_p k).f x := by kernel_rfl
theorem corbeltop_sums_ok (k : Nat) : PFOK Tryd.prog tab 6 (corbeltop_sums_p k) := pfok mixed tabOK (corbeltop_sums_fok k) Tryd.func6 (I := corbeltop_sums_I k) (d := 0) (corbeltop_sums_iok k) (Q := corbeltop_sums_O k) (hi := corbeltop_sums_h) (cuts_of (l := []) (by kernel_rfl) trivial) (corbeltop_sums_ev k)
end Go.Proofs.YtdmcfpnegbfgiaaDoor.Ev
