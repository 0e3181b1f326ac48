/- xor_Add, told on plain data. Written by program. -/
import Derived.Test.YtdmcfpnegbfgiaaDoorExor_Fold
set_option linter.unusedVariables false
set_option maxRecDepth 1000000
namespace Go.Proofs.YtdmcfpnegbfgiaaDoor.Ev
open Go Go.RowKit Go.Proofs
def xor_Add (k : Nat) (a_324 : ByteArray) (b_325 : ByteArray) : Option ByteArray :=
  optb (xor_Fold k false ([a_324, b_325] : List ByteArray)) fun r_1157 =>
  some r_1157
def xor_Add_p (k : Nat) : PF := { ps := [(false, 1), (false, 1)], rs := [(false, 1)], τ := (.pair .str .str), σ := .str, f := fun x => xor_Add k x.1 x.2 }
def xor_Add_F (k : Nat) : PT := fcons 20 (xor_Fold_p k) <| fnone
theorem xor_Add_fok (k : Nat) : FOK Tryd.prog tab (xor_Add_F k) := fok_cons (xor_Fold_ok k) Tryd.call20 <| fok_none
def xor_Add_h : Hint := .no
def xor_Add_O {R : Type} (k : Nat) : CutK R := cutsO []
noncomputable def xor_Add_I {R : Type} (k : Nat) : InlT R := inone
theorem xor_Add_iok {R : Type} (k : Nat) : IOK Tryd.prog tab (xor_Add_F k) (xor_Add_I (R := R) k) := iok_none
theorem xor_Add_ev (k : Nat) (x : (xor_Add_p k).τ.den) : evalF tab (xor_Add_F k) (xor_Add_p k) (xor_Add_I k) 0 (xor_Add_O k) xor_Add_h Tryd.f19 x = (xor_Add_p k).f x := by kernel_rfl
theorem xor_Add_ok (k : Nat) : PFOK Tryd.prog tab 19 (xor_Add_p k) := pfok mixed tabOK (xor_Add_fok k) Tryd.func19 (I := xor_Add_I k) (d := 0) (xor_Add_iok k) (Q := xor_Add_O k) (hi := xor_Add_h) (cuts_of (l := []) (by kernel_rfl) trivial) (xor_Add_ev k)
end Go.Proofs.YtdmcfpnegbfgiaaDoor.Ev
