/- corbellaw01_NumsWidth, told on plain data. Written by program. -/
import Derived.Test.YtncdfikcdchimaaEcorbellaw01_speaks
import Derived.Test.YtncdfikcdchimaaEnums_Put
import Derived.Test.YtncdfikcdchimaaEnums_Get
set_option linter.unusedVariables false
set_option maxRecDepth 1000000
namespace Go.Proofs.Ytncdfikcdchimaa.Ev
open Go Go.RowKit Go.Proofs
def corbellaw01_NumsWidth_j0 {R : Type} (e0 : Int → Int → Bool → ByteArray → Option R) (e1 : Int → Int → ByteArray → Option R) (k : Nat) (v_286 : Int) (v_287 : Int) (v_288 : ByteArray) (v_289 : Bool) : Option R :=
  bif v_289 then
    e0 v_286 v_287 true v_288
  else e1 v_286 v_287 v_288
def corbellaw01_NumsWidth_k0 (k : Nat) : Int → Int → Bool → ByteArray → Option Bool := fun v_290 v_291 v_292 v_293 =>
  some v_292
def corbellaw01_NumsWidth_k1 (k : Nat) : Int → Int → ByteArray → Option Bool := fun v_294 v_295 v_296 =>
  bif (decide ((⟨#[0]⟩ : ByteArray).size + v_296.size ≤ 1099511627776)) then
    optb (nums_Get k ((⟨#[0]⟩ : ByteArray) ++ v_296)) fun r_297 =>
    optb (nums_Put k v_294 (wrap64 (v_295 + (1 : Int)))) fun r_298 =>
    bif (decide ((⟨#[0]⟩ : ByteArray).size + v_296.size ≤ 1099511627776)) then
      bif (decide (r_298 = ((⟨#[0]⟩ : ByteArray) ++ v_296))) then
        bif r_297.2 then
          some (decide (r_297.1 = v_294))
        else some false
      else some false
    else none
  else none
def corbellaw01_NumsWidth (k : Nat) (a0 : Int) (a1 : Int) : Option Bool :=
  optb (corbellaw01_speaks k) fun r_284 =>
  bif (!r_284) then
    some false
  else optb (nums_Put k a0 a1) fun r_285 =>
  bif (decide (r_285 = (⟨#[]⟩ : ByteArray))) then
    corbellaw01_NumsWidth_j0 (corbellaw01_NumsWidth_k0 k) (corbellaw01_NumsWidth_k1 k) k a0 a1 r_285 true
  else corbellaw01_NumsWidth_j0 (corbellaw01_NumsWidth_k0 k) (corbellaw01_NumsWidth_k1 k) k a0 a1 r_285 (decide (a1 = (7 : Int)))
def corbellaw01_NumsWidth_p (k : Nat) : PF := { ps := [(false, 1), (false, 1)], rs := [(false, 1)], τ := (.pair (.int .i64) (.int .i64)), σ := .bool, f := fun x => corbellaw01_NumsWidth k x.1 x.2 }
def corbellaw01_NumsWidth_F (k : Nat) : PT := fcons 10 (corbellaw01_speaks_p k) <| fcons 11 (nums_Put_p k) <| fcons 17 (nums_Get_p k) <| fnone
theorem corbellaw01_NumsWidth_fok (k : Nat) : FOK Try.prog (corbellaw01_NumsWidth_F k) := fok_cons (corbellaw01_speaks_ok k) Try.call10 <| fok_cons (nums_Put_ok k) Try.call11 <| fok_cons (nums_Get_ok k) Try.call17 <| fok_none
def corbellaw01_NumsWidth_c0 : Cl := { keep := [0, 1, 5, 18], hl := 0, ad := [], adc := [], bump := [] }
def corbellaw01_NumsWidth_x0 : Cl := { keep := [0, 1, 4, 5], hl := 0, ad := [], adc := [], bump := [] }
def corbellaw01_NumsWidth_h : Hint := (.sq .no (.sq .no (.sq .no (.sq (.ct corbellaw01_NumsWidth_c0 corbellaw01_NumsWidth_x0 0 .no .no) .no))))
def corbellaw01_NumsWidth_j0_E0 {R : Type} (K : EX → St → Option R) : Int → Int → Bool → ByteArray → Option R := fun v0 v1 v2 v3 => K .ret (mkSt 40 [] corbellaw01_NumsWidth_x0.keep [.int .i64 v0, .int .i64 v1, .bool v2, .str v3] [])
def corbellaw01_NumsWidth_j0_E1 {R : Type} (K : EX → St → Option R) : Int → Int → ByteArray → Option R := fun v0 v1 v2 => K .normal (mkSt 40 [] corbellaw01_NumsWidth_x0.keep [.int .i64 v0, .int .i64 v1, .junk, .str v2] [])
def corbellaw01_NumsWidth_j0_S (v_286 : Int) (v_287 : Int) (v_288 : ByteArray) (v_289 : Bool) : St := mkSt 40 [] corbellaw01_NumsWidth_c0.keep [.int .i64 v_286, .int .i64 v_287, .str v_288, .bool v_289] []
def corbellaw01_NumsWidth_j0_sh : Rd (List AV × List HE) := .pair (.cons (.int .i64) (.cons (.int .i64) (.cons .str (.cons .bool Rd.nil)))) Rd.nil
def corbellaw01_NumsWidth_j0_a {R : Type} (k : Nat) : Alt R := { n := 40, v := [], sh := corbellaw01_NumsWidth_j0_sh, g := fun K x => corbellaw01_NumsWidth_j0 (corbellaw01_NumsWidth_j0_E0 K) (corbellaw01_NumsWidth_j0_E1 K) k x.1.1 x.1.2.1 x.1.2.2.1 x.1.2.2.2.1 }
def corbellaw01_NumsWidth_O {R : Type} (k : Nat) : CutK R := cutsO [[corbellaw01_NumsWidth_j0_a k]]
noncomputable def corbellaw01_NumsWidth_b : List Ob := obs (bodyOf Try.f7) corbellaw01_NumsWidth_h
noncomputable def corbellaw01_NumsWidth_I {R : Type} (k : Nat) : InlT R := inone
theorem corbellaw01_NumsWidth_j0_eq {R : Type} (k : Nat) (K : EX → St → Option R) (v_286 : Int) (v_287 : Int) (v_288 : ByteArray) (v_289 : Bool) : corbellaw01_NumsWidth_j0 (corbellaw01_NumsWidth_j0_E0 K) (corbellaw01_NumsWidth_j0_E1 K) k v_286 v_287 v_288 v_289 = ev tab (corbellaw01_NumsWidth_F k) (inlK tab (corbellaw01_NumsWidth_F k) (corbellaw01_NumsWidth_I k) 0) (corbellaw01_NumsWidth_O k) (obB corbellaw01_NumsWidth_b 0) (obH corbellaw01_NumsWidth_b 0) (corbellaw01_NumsWidth_j0_S v_286 v_287 v_288 v_289) (fun e st => optb (clean corbellaw01_NumsWidth_x0 st) fun st => K e st) := by kernel_rfl
theorem corbellaw01_NumsWidth_j0_ok {R : Type} (k : Nat)  : ObOK (R := R) tab (corbellaw01_NumsWidth_F k) (inlK tab (corbellaw01_NumsWidth_F k) (corbellaw01_NumsWidth_I k) 0) (corbellaw01_NumsWidth_O k) (.join corbellaw01_NumsWidth_c0 corbellaw01_NumsWidth_x0 0 (obB corbellaw01_NumsWidth_b 0) (obH corbellaw01_NumsWidth_b 0)) :=
  join_ok (l := [corbellaw01_NumsWidth_j0_a k]) (by kernel_rfl) ⟨(fun K x => (corbellaw01_NumsWidth_j0_eq k K x.1.1 x.1.2.1 x.1.2.2.1 x.1.2.2.2.1).trans (by kernel_rfl)), trivial⟩
theorem corbellaw01_NumsWidth_cuts {R : Type} (k : Nat) : ∀ c, Try.f7.body = some c → CutsOK (R := R) tab (corbellaw01_NumsWidth_F k) (inlK tab (corbellaw01_NumsWidth_F k) (corbellaw01_NumsWidth_I k) 0) (corbellaw01_NumsWidth_O k) c corbellaw01_NumsWidth_h :=
  cuts_of (l := [.join corbellaw01_NumsWidth_c0 corbellaw01_NumsWidth_x0 0 (obB corbellaw01_NumsWidth_b 0) (obH corbellaw01_NumsWidth_b 0)]) (by kernel_rfl) ⟨corbellaw01_NumsWidth_j0_ok k, trivial⟩
theorem corbellaw01_NumsWidth_iok {R : Type} (k : Nat) : IOK Try.prog tab (corbellaw01_NumsWidth_F k) (corbellaw01_NumsWidth_I (R := R) k) := iok_none
theorem corbellaw01_NumsWidth_ev (k : Nat) (x : (corbellaw01_NumsWidth_p k).τ.den) : evalF tab (corbellaw01_NumsWidth_F k) (corbellaw01_NumsWidth_p k) (corbellaw01_NumsWidth_I k) 0 (corbellaw01_NumsWidth_O k) corbellaw01_NumsWidth_h Try.f7 x = (corbellaw01_NumsWidth_p k).f x := by kernel_rfl
theorem corbellaw01_NumsWidth_ok (k : Nat) : PFOK Try.prog 7 (corbellaw01_NumsWidth_p k) := pfok mixed tabOK (corbellaw01_NumsWidth_fok k) Try.func7 (I := corbellaw01_NumsWidth_I k) (d := 0) (corbellaw01_NumsWidth_iok k) (Q := corbellaw01_NumsWidth_O k) (hi := corbellaw01_NumsWidth_h) (corbellaw01_NumsWidth_cuts k) (corbellaw01_NumsWidth_ev k)
end Go.Proofs.Ytncdfikcdchimaa.Ev
