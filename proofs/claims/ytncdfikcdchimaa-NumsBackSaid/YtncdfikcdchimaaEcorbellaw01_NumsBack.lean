/- corbellaw01_NumsBack, told on plain data. Written by program. -/
import Derived.Test.YtncdfikcdchimaaEcorbellaw01_speaks
import Derived.Test.YtncdfikcdchimaaEnums_Put
import Derived.Test.YtncdfikcdchimaaEnums_Get
set_option linter.unusedVariables false
set_option maxRecDepth 1000000
namespace Go.Proofs.Ytncdfikcdchimaa.Ev
open Go Go.RowKit Go.Proofs
def corbellaw01_NumsBack_j0 {R : Type} (e0 : Int → Int → Int → Bool → ByteArray → ByteArray → Option R) (e1 : Int → Int → Int → ByteArray → ByteArray → Option R) (k : Nat) (v_264 : Int) (v_265 : Int) (v_266 : Int) (v_267 : ByteArray) (v_268 : ByteArray) (v_269 : Bool) : Option R :=
  bif v_269 then
    e0 v_264 v_265 v_266 true v_267 v_268
  else e1 v_264 v_265 v_266 v_267 v_268
def corbellaw01_NumsBack_k0 (k : Nat) : Int → Int → Int → Bool → ByteArray → ByteArray → Option Bool := fun v_270 v_271 v_272 v_273 v_274 v_275 =>
  some v_273
def corbellaw01_NumsBack_k1 (k : Nat) : Int → Int → Int → ByteArray → ByteArray → Option Bool := fun v_276 v_277 v_278 v_279 v_280 =>
  optb (nums_Get k v_279) fun r_281 =>
  bif r_281.2 then
    bif (decide (r_281.1 = v_276)) then
      bif (decide ((v_279.size : Int) = v_278)) then
        some ((Op.bytesLess v_279.toList v_280.toList) == (decide (v_276 < v_277)))
      else some false
    else some false
  else some false
def corbellaw01_NumsBack (k : Nat) (a0 : Int) (a1 : Int) (a2 : Int) : Option Bool :=
  optb (corbellaw01_speaks k) fun r_261 =>
  bif (!r_261) then
    some false
  else optb (nums_Put k a0 a2) fun r_262 =>
  optb (nums_Put k a1 a2) fun r_263 =>
  bif (decide (r_262 = (⟨#[]⟩ : ByteArray))) then
    corbellaw01_NumsBack_j0 (corbellaw01_NumsBack_k0 k) (corbellaw01_NumsBack_k1 k) k a0 a1 a2 r_262 r_263 true
  else corbellaw01_NumsBack_j0 (corbellaw01_NumsBack_k0 k) (corbellaw01_NumsBack_k1 k) k a0 a1 a2 r_262 r_263 (decide (r_263 = (⟨#[]⟩ : ByteArray)))
def corbellaw01_NumsBack_p (k : Nat) : PF := { ps := [(false, 1), (false, 1), (false, 1)], rs := [(false, 1)], τ := (.pair (.int .i64) (.pair (.int .i64) (.int .i64))), σ := .bool, f := fun x => corbellaw01_NumsBack k x.1 x.2.1 x.2.2 }
def corbellaw01_NumsBack_F (k : Nat) : PT := fcons 10 (corbellaw01_speaks_p k) <| fcons 11 (nums_Put_p k) <| fcons 17 (nums_Get_p k) <| fnone
theorem corbellaw01_NumsBack_fok (k : Nat) : FOK Try.prog (corbellaw01_NumsBack_F k) := fok_cons (corbellaw01_speaks_ok k) Try.call10 <| fok_cons (nums_Put_ok k) Try.call11 <| fok_cons (nums_Get_ok k) Try.call17 <| fok_none
def corbellaw01_NumsBack_c0 : Cl := { keep := [0, 1, 2, 7, 8, 24], hl := 0, ad := [], adc := [], bump := [] }
def corbellaw01_NumsBack_x0 : Cl := { keep := [0, 1, 2, 6, 7, 8], hl := 0, ad := [], adc := [], bump := [] }
def corbellaw01_NumsBack_h : Hint := (.sq .no (.sq .no (.sq .no (.sq (.ct corbellaw01_NumsBack_c0 corbellaw01_NumsBack_x0 0 .no .no) .no))))
def corbellaw01_NumsBack_j0_E0 {R : Type} (K : EX → St → Option R) : Int → Int → Int → Bool → ByteArray → ByteArray → Option R := fun v0 v1 v2 v3 v4 v5 => K .ret (mkSt 51 [] corbellaw01_NumsBack_x0.keep [.int .i64 v0, .int .i64 v1, .int .i64 v2, .bool v3, .str v4, .str v5] [])
def corbellaw01_NumsBack_j0_E1 {R : Type} (K : EX → St → Option R) : Int → Int → Int → ByteArray → ByteArray → Option R := fun v0 v1 v2 v3 v4 => K .normal (mkSt 51 [] corbellaw01_NumsBack_x0.keep [.int .i64 v0, .int .i64 v1, .int .i64 v2, .junk, .str v3, .str v4] [])
def corbellaw01_NumsBack_j0_S (v_264 : Int) (v_265 : Int) (v_266 : Int) (v_267 : ByteArray) (v_268 : ByteArray) (v_269 : Bool) : St := mkSt 51 [] corbellaw01_NumsBack_c0.keep [.int .i64 v_264, .int .i64 v_265, .int .i64 v_266, .str v_267, .str v_268, .bool v_269] []
def corbellaw01_NumsBack_j0_sh : Rd (List AV × List HE) := .pair (.cons (.int .i64) (.cons (.int .i64) (.cons (.int .i64) (.cons .str (.cons .str (.cons .bool Rd.nil)))))) Rd.nil
def corbellaw01_NumsBack_j0_a {R : Type} (k : Nat) : Alt R := { n := 51, v := [], sh := corbellaw01_NumsBack_j0_sh, g := fun K x => corbellaw01_NumsBack_j0 (corbellaw01_NumsBack_j0_E0 K) (corbellaw01_NumsBack_j0_E1 K) k x.1.1 x.1.2.1 x.1.2.2.1 x.1.2.2.2.1 x.1.2.2.2.2.1 x.1.2.2.2.2.2.1 }
def corbellaw01_NumsBack_O {R : Type} (k : Nat) : CutK R := cutsO [[corbellaw01_NumsBack_j0_a k]]
noncomputable def corbellaw01_NumsBack_b : List Ob := obs (bodyOf Try.f6) corbellaw01_NumsBack_h
noncomputable def corbellaw01_NumsBack_I {R : Type} (k : Nat) : InlT R := inone
theorem corbellaw01_NumsBack_j0_eq {R : Type} (k : Nat) (K : EX → St → Option R) (v_264 : Int) (v_265 : Int) (v_266 : Int) (v_267 : ByteArray) (v_268 : ByteArray) (v_269 : Bool) : corbellaw01_NumsBack_j0 (corbellaw01_NumsBack_j0_E0 K) (corbellaw01_NumsBack_j0_E1 K) k v_264 v_265 v_266 v_267 v_268 v_269 = ev tab (corbellaw01_NumsBack_F k) (inlK tab (corbellaw01_NumsBack_F k) (corbellaw01_NumsBack_I k) 0) (corbellaw01_NumsBack_O k) (obB corbellaw01_NumsBack_b 0) (obH corbellaw01_NumsBack_b 0) (corbellaw01_NumsBack_j0_S v_264 v_265 v_266 v_267 v_268 v_269) (fun e st => optb (clean corbellaw01_NumsBack_x0 st) fun st => K e st) := by kernel_rfl
theorem corbellaw01_NumsBack_j0_ok {R : Type} (k : Nat)  : ObOK (R := R) tab (corbellaw01_NumsBack_F k) (inlK tab (corbellaw01_NumsBack_F k) (corbellaw01_NumsBack_I k) 0) (corbellaw01_NumsBack_O k) (.join corbellaw01_NumsBack_c0 corbellaw01_NumsBack_x0 0 (obB corbellaw01_NumsBack_b 0) (obH corbellaw01_NumsBack_b 0)) :=
  join_ok (l := [corbellaw01_NumsBack_j0_a k]) (by kernel_rfl) ⟨(fun K x => (corbellaw01_NumsBack_j0_eq k K x.1.1 x.1.2.1 x.1.2.2.1 x.1.2.2.2.1 x.1.2.2.2.2.1 x.1.2.2.2.2.2.1).trans (by kernel_rfl)), trivial⟩
theorem corbellaw01_NumsBack_cuts {R : Type} (k : Nat) : ∀ c, Try.f6.body = some c → CutsOK (R := R) tab (corbellaw01_NumsBack_F k) (inlK tab (corbellaw01_NumsBack_F k) (corbellaw01_NumsBack_I k) 0) (corbellaw01_NumsBack_O k) c corbellaw01_NumsBack_h :=
  cuts_of (l := [.join corbellaw01_NumsBack_c0 corbellaw01_NumsBack_x0 0 (obB corbellaw01_NumsBack_b 0) (obH corbellaw01_NumsBack_b 0)]) (by kernel_rfl) ⟨corbellaw01_NumsBack_j0_ok k, trivial⟩
theorem corbellaw01_NumsBack_iok {R : Type} (k : Nat) : IOK Try.prog tab (corbellaw01_NumsBack_F k) (corbellaw01_NumsBack_I (R := R) k) := iok_none
theorem corbellaw01_NumsBack_ev (k : Nat) (x : (corbellaw01_NumsBack_p k).τ.den) : evalF tab (corbellaw01_NumsBack_F k) (corbellaw01_NumsBack_p k) (corbellaw01_NumsBack_I k) 0 (corbellaw01_NumsBack_O k) corbellaw01_NumsBack_h Try.f6 x = (corbellaw01_NumsBack_p k).f x := by kernel_rfl
theorem corbellaw01_NumsBack_ok (k : Nat) : PFOK Try.prog 6 (corbellaw01_NumsBack_p k) := pfok mixed tabOK (corbellaw01_NumsBack_fok k) Try.func6 (I := corbellaw01_NumsBack_I k) (d := 0) (corbellaw01_NumsBack_iok k) (Q := corbellaw01_NumsBack_O k) (hi := corbellaw01_NumsBack_h) (corbellaw01_NumsBack_cuts k) (corbellaw01_NumsBack_ev k)
end Go.Proofs.Ytncdfikcdchimaa.Ev
