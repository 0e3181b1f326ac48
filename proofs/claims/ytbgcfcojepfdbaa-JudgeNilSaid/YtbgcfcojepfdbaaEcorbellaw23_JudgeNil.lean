/- corbellaw23_JudgeNil, told on plain data. Written by program. -/
import Derived.Test.YtbgcfcojepfdbaaEcorbellaw23_speaks
set_option linter.unusedVariables false
set_option maxRecDepth 1000000
namespace Go.Proofs.Ytbgcfcojepfdbaa.Ev
open Go Go.RowKit Go.Proofs
def corbellaw23_JudgeNil (k : Nat) (block_1 : Int) (n_2 : Int) (s_3 : ByteArray) : Option Bool :=
  optb (corbellaw23_speaks k) fun r_15475 =>
  bif (!r_15475) then
    some false
  else bif (decide ((⟨#[]⟩ : ByteArray) = (⟨#[]⟩ : ByteArray))) then
    some true
  else some false
def corbellaw23_JudgeNil_p (k : Nat) : PF := { ps := [(false, 1), (false, 1), (false, 1)], rs := [(false, 1)], τ := (.pair (.int .i64) (.pair (.int .i64) .str)), σ := .bool, f := fun x => corbellaw23_JudgeNil k x.1 x.2.1 x.2.2 }
def corbellaw23_JudgeNil_F (k : Nat) : PT := fcons 21 (corbellaw23_speaks_p k) <| fnone
theorem corbellaw23_JudgeNil_fok (k : Nat) : FOK Try.prog tab (corbellaw23_JudgeNil_F k) := fok_cons (corbellaw23_speaks_ok k) Try.call21 <| fok_none
def corbellaw23_JudgeNil_h : Hint := .no
def corbellaw23_JudgeNil_O {R : Type} (k : Nat) : CutK R := cutsO []
def corbellaw23_JudgeNil_i25_0_h : Hint := .no
def corbellaw23_JudgeNil_i25_0_O {R : Type} (k : Nat) : CutK R := cutsO []
def corbellaw23_JudgeNil_i50_0_h : Hint := .no
def corbellaw23_JudgeNil_i50_0_O {R : Type} (k : Nat) : CutK R := cutsO []
def corbellaw23_JudgeNil_i26_0_h : Hint := .no
def corbellaw23_JudgeNil_i26_0_O {R : Type} (k : Nat) : CutK R := cutsO []
def corbellaw23_JudgeNil_i28_1_h : Hint := .no
def corbellaw23_JudgeNil_i28_1_O {R : Type} (k : Nat) : CutK R := cutsO []
def corbellaw23_JudgeNil_i24_1_h : Hint := .no
def corbellaw23_JudgeNil_i24_1_O {R : Type} (k : Nat) : CutK R := cutsO []
def corbellaw23_JudgeNil_i32_1_h : Hint := .no
def corbellaw23_JudgeNil_i32_1_O {R : Type} (k : Nat) : CutK R := cutsO []
def corbellaw23_JudgeNil_i50_1_h : Hint := .no
def corbellaw23_JudgeNil_i50_1_O {R : Type} (k : Nat) : CutK R := cutsO []
def corbellaw23_JudgeNil_i27_1_h : Hint := .no
def corbellaw23_JudgeNil_i27_1_O {R : Type} (k : Nat) : CutK R := cutsO []
noncomputable def corbellaw23_JudgeNil_I {R : Type} (k : Nat) : InlT R := icons 25 0 (corbellaw23_JudgeNil_i25_0_h, Try.f25, deepO 1 (corbellaw23_JudgeNil_i25_0_O k)) <| icons 50 0 (corbellaw23_JudgeNil_i50_0_h, Try.f50, deepO 0 (corbellaw23_JudgeNil_i50_0_O k)) <| icons 26 0 (corbellaw23_JudgeNil_i26_0_h, Try.f26, deepO 0 (corbellaw23_JudgeNil_i26_0_O k)) <| icons 28 1 (corbellaw23_JudgeNil_i28_1_h, Try.f28, deepO 0 (corbellaw23_JudgeNil_i28_1_O k)) <| icons 24 1 (corbellaw23_JudgeNil_i24_1_h, Try.f24, deepO 0 (corbellaw23_JudgeNil_i24_1_O k)) <| icons 32 1 (corbellaw23_JudgeNil_i32_1_h, Try.f32, deepO 1 (corbellaw23_JudgeNil_i32_1_O k)) <| icons 50 1 (corbellaw23_JudgeNil_i50_1_h, Try.f50, deepO 0 (corbellaw23_JudgeNil_i50_1_O k)) <| icons 27 1 (corbellaw23_JudgeNil_i27_1_h, Try.f27, deepO 0 (corbellaw23_JudgeNil_i27_1_O k)) <| inone
theorem corbellaw23_JudgeNil_iok {R : Type} (k : Nat) : IOK Try.prog tab (corbellaw23_JudgeNil_F k) (corbellaw23_JudgeNil_I (R := R) k) := iok_cons Try.func25 Try.call25 (plainO (by kernel_rfl)) <| iok_cons Try.func50 Try.call50 (plainO (by kernel_rfl)) <| iok_cons Try.func26 Try.call26 (plainO (by kernel_rfl)) <| iok_cons Try.func28 Try.call28 (plainO (by kernel_rfl)) <| iok_cons Try.func24 Try.call24 (plainO (by kernel_rfl)) <| iok_cons Try.func32 Try.call32 (plainO (by kernel_rfl)) <| iok_cons Try.func50 Try.call50 (plainO (by kernel_rfl)) <| iok_cons Try.func27 Try.call27 (plainO (by kernel_rfl)) <| iok_none
theorem corbellaw23_JudgeNil_ev (k : Nat) (x : (corbellaw23_JudgeNil_p k).τ.den) : evalF tab (corbellaw23_JudgeNil_F k) (corbellaw23_JudgeNil_p k) (corbellaw23_JudgeNil_I k) 2 (corbellaw23_JudgeNil_O k) corbellaw23_JudgeNil_h Try.f9 x = (corbellaw23_JudgeNil_p k).f x := by kernel_rfl
theorem corbellaw23_JudgeNil_ok (k : Nat) : PFOK Try.prog tab 9 (corbellaw23_JudgeNil_p k) := pfok mixed tabOK (corbellaw23_JudgeNil_fok k) Try.func9 (I := corbellaw23_JudgeNil_I k) (d := 2) (corbellaw23_JudgeNil_iok k) (Q := corbellaw23_JudgeNil_O k) (hi := corbellaw23_JudgeNil_h) (cuts_of (l := []) (by kernel_rfl) trivial) (corbellaw23_JudgeNil_ev k)
end Go.Proofs.Ytbgcfcojepfdbaa.Ev
