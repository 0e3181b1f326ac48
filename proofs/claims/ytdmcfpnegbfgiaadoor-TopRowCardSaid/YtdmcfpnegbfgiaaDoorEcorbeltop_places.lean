/- corbeltop_places, told on plain data. Written by program. -/
import Derived.Test.YtdmcfpnegbfgiaaDoorEgeom_Place
import Derived.Test.YtdmcfpnegbfgiaaDoorEcorbeltop_sums
import Derived.Test.YtdmcfpnegbfgiaaDoorEgeom_Parity
import Derived.Test.YtdmcfpnegbfgiaaDoorExor_Add
set_option linter.unusedVariables false
set_option maxRecDepth 1000000
namespace Go.Proofs.YtdmcfpnegbfgiaaDoor.Ev
open Go Go.RowKit Go.Proofs
def corbeltop_places (k : Nat)  : Option Bool :=
  optb (geom_Place k (3 : Int) (5 : Int) (4 : Int) (1 : Int) (1 : Int) (0 : Int) (1 : Int)) fun r_189 =>
  optb (corbeltop_sums k) fun r_1158 =>
  bif r_1158 then
    bif r_189.2.2 then
      bif (decide (r_189.1 = (0 : Int))) then
        bif (decide (r_189.2.1 = (2 : Int))) then
          optb (geom_Parity k (3 : Int) (5 : Int) (4 : Int) (1 : Int) (1 : Int) (0 : Int) (0 : Int)) fun r_1159 =>
          bif (decide (r_1159 = (0 : Int))) then
            optb (xor_Add k (⟨#[97]⟩ : ByteArray) (⟨#[97]⟩ : ByteArray)) fun r_1160 =>
            some (decide (r_1160 = (⟨#[0]⟩ : ByteArray)))
          else some false
        else some false
      else some false
    else some false
  else some false
def corbeltop_places_p (k : Nat) : PF := { ps := [], rs := [(false, 1)], τ := .bool, σ := .bool, f := fun x => corbeltop_places k }
def corbeltop_places_F (k : Nat) : PT := fcons 15 (geom_Place_p k) <| fcons 6 (corbeltop_sums_p k) <| fcons 16 (geom_Parity_p k) <| fcons 19 (xor_Add_p k) <| fnone
theorem corbeltop_places_fok (k : Nat) : FOK Tryd.prog tab (corbeltop_places_F k) := fok_cons (geom_Place_ok k) Tryd.call15 <| fok_cons (corbeltop_sums_ok k) Tryd.call6 <| fok_cons (geom_Parity_ok k) Tryd.call16 <| fok_cons (xor_Add_ok k) Tryd.call19 <| fok_none
def corbeltop_places_h : Hint := .no
def corbeltop_places_O {R : Type} (k : Nat) : CutK R := cutsO []
noncomputable def corbeltop_places_I {R : Type} (k : Nat) : InlT R := inone
theorem corbeltop_places_iok {R : Type} (k : Nat) : IOK Tryd.prog tab (corbeltop_places_F k) (corbeltop_places_I (R := R) k) := iok_none
theorem corbeltop_places_ev (k : Nat) (x : (corbeltop_places_p k).τ.den) : evalF tab (corbeltop_places_F k) (corbeltop_places_p k) (corbeltop_places_I k) 0 (corbeltop_places_O k) corbeltop_places_h Tryd.f11 x = (corbeltop_places_p k).f x := by kernel_rfl
theorem corbeltop_places_ok (k : Nat) : PFOK Tryd.prog tab 11 (corbeltop_places_p k) := pfok mixed tabOK (corbeltop_places_fok k) Tryd.func11 (I := corbeltop_places_I k) (d := 0) (corbeltop_places_iok k) (Q := corbeltop_places_O k) (hi := corbeltop_places_h) (cuts_of (l := []) (by kernel_rfl) trivial) (corbeltop_places_ev k)
end Go.Proofs.YtdmcfpnegbfgiaaDoor.Ev
