/- corbelref01_Put, told on plain data. Written by program. -/
import Derived.Test.YtncdfikcdchimaaEtab
set_option linter.unusedVariables false
set_option maxRecDepth 1000000
namespace Go.Proofs.Ytncdfikcdchimaa.Ev
open Go Go.RowKit Go.Proofs
def corbelref01_Put_j0 {R : Type} (e0 : Int → Int → ByteArray → Option R) (e1 : Int → Int → Option R) (k : Nat) (v_214 : Int) (v_215 : Int) (v_216 : Bool) : Option R :=
  bif v_216 then
    e0 v_214 v_215 (⟨#[]⟩ : ByteArray)
  else e1 v_214 v_215
def corbelref01_Put_l1s {R : Type} (rc : Int → Int → ByteArray → Int → Option R) (e0 : Int → ByteArray → Option R) (k : Nat) (v_222 : Int) (v_223 : Int) (v_224 : ByteArray) (v_225 : Int) : Option R :=
  bif (decide (v_225 < v_223)) then
    let z_227 := (IntKind.u8.wrap (Int.tmod v_222 (256 : Int)))
    bif (decide ((bytesOf ([z_227] : List Int)).size + v_224.size ≤ 1099511627776)) then
      rc (wrap64 (Int.tdiv v_222 (256 : Int))) v_223 ((bytesOf ([z_227] : List Int)) ++ v_224) (wrap64 (v_225 + (1 : Int)))
    else none
  else e0 v_222 v_224
def corbelref01_Put_l1 {R : Type} (e0 : Int → ByteArray → Option R) (k : Nat) : Nat → Int → Int → ByteArray → Int → Option R
  | 0 => fun _ _ _ _ => none
  | j + 1 => corbelref01_Put_l1s (corbelref01_Put_l1 e0 k j) e0 k
def corbelref01_Put_k0 (k : Nat) : Int → Int → ByteArray → Option ByteArray := fun v_217 v_218 v_219 =>
  some v_219
def corbelref01_Put_k1 (k : Nat) : Int → Int → Option ByteArray := fun v_220 v_221 =>
  corbelref01_Put_l1 (fun v_228 v_229 =>
    bif (decide ((0 : Int) < v_228)) then
      some (⟨#[]⟩ : ByteArray)
    else some v_229) k k v_220 v_221 (⟨#[]⟩ : ByteArray) (0 : Int)
def corbelref01_Put (k : Nat) (a0 : Int) (a1 : Int) : Option ByteArray :=
  bif (decide (a1 < (1 : Int))) then
    corbelref01_Put_j0 (corbelref01_Put_k0 k) (corbelref01_Put_k1 k) k a0 a1 true
  else bif (decide ((7 : Int) < a1)) then
    corbelref01_Put_j0 (corbelref01_Put_k0 k) (corbelref01_Put_k1 k) k a0 a1 true
  else corbelref01_Put_j0 (corbelref01_Put_k0 k) (corbelref01_Put_k1 k) k a0 a1 (decide (a0 < (0 : Int)))
def corbelref01_Put_p (k : Nat) : PF := { ps := [(false, 1), (false, 1)], rs := [(false, 1)], τ := (.pair (.int .i64) (.int .i64)), σ := .str, f := fun x => corbelref01_Put k x.1 x.2 }
def corbelref01_Put_F (k : Nat) : PT := fnone
theorem corbelref01_Put_fok (k : Nat) : FOK Try.prog (corbelref01_Put_F k) := fok_none
def corbelref01_Put_c0 : Cl := { keep := [0, 1, 16], hl := 0, ad := [], adc := [], bump := [] }
def corbelref01_Put_x0 : Cl := { keep := [0, 1, 4], hl := 0, ad := [], adc := [], bump := [] }
def corbelref01_Put_c1 : Cl := { keep := [0, 1, 5, 6], hl := 0, ad := [], adc := [], bump := [] }
def corbelref01_Put_x1 : Cl := { keep := [0, 5], hl := 0, ad := [], adc := [], bump := [] }
def corbelref01_Put_h : Hint := (.sq .no (.sq (.ct corbelref01_Put_c0 corbelref01_Put_x0 0 .no .no) (.sq .no (.sq (.sq .no (.lp corbelref01_Put_c1 corbelref01_Put_x1 1 .no)) .no))))
def corbelref01_Put_j0_E0 {R : Type} (K : EX → St → Option R) : Int → Int → ByteArray → Option R := fun v0 v1 v2 => K .ret (mkSt 34 [] corbelref01_Put_x0.keep [.int .i64 v0, .int .i64 v1, .str v2] [])
def corbelref01_Put_j0_E1 {R : Type} (K : EX → St → Option R) : Int → Int → Option R := fun v0 v1 => K .normal (mkSt 34 [] corbelref01_Put_x0.keep [.int .i64 v0, .int .i64 v1, .junk] [])
def corbelref01_Put_j0_S (v_214 : Int) (v_215 : Int) (v_216 : Bool) : St := mkSt 34 [] corbelref01_Put_c0.keep [.int .i64 v_214, .int .i64 v_215, .bool v_216] []
def corbelref01_Put_j0_sh : Rd (List AV × List HE) := .pair (.cons (.int .i64) (.cons (.int .i64) (.cons .bool Rd.nil))) Rd.nil
def corbelref01_Put_j0_a {R : Type} (k : Nat) : Alt R := { n := 34, v := [], sh := corbelref01_Put_j0_sh, g := fun K x => corbelref01_Put_j0 (corbelref01_Put_j0_E0 K) (corbelref01_Put_j0_E1 K) k x.1.1 x.1.2.1 x.1.2.2.1 }
def corbelref01_Put_l1_E0 {R : Type} (K : EX → St → Option R) : Int → ByteArray → Option R := fun v0 v1 => K (.exit 0) (mkSt 34 [] corbelref01_Put_x1.keep [.int .i64 v0, .str v1] [])
def corbelref01_Put_l1_S (v_222 : Int) (v_223 : Int) (v_224 : ByteArray) (v_225 : Int) : St := mkSt 34 [] corbelref01_Put_c1.keep [.int .i64 v_222, .int .i64 v_223, .str v_224, .int .i64 v_225] []
def corbelref01_Put_l1_sh : Rd (List AV × List HE) := .pair (.cons (.int .i64) (.cons (.int .i64) (.cons .str (.cons (.int .i64) Rd.nil)))) Rd.nil
def corbelref01_Put_l1_a {R : Type} (k : Nat) : Alt R := { n := 34, v := [], sh := corbelref01_Put_l1_sh, g := fun K x => corbelref01_Put_l1 (corbelref01_Put_l1_E0 K) k k x.1.1 x.1.2.1 x.1.2.2.1 x.1.2.2.2.1 }
def corbelref01_Put_O {R : Type} (k : Nat) : CutK R := cutsO [[corbelref01_Put_j0_a k], [corbelref01_Put_l1_a k]]
noncomputable def corbelref01_Put_b : List Ob := obs (bodyOf Try.f12) corbelref01_Put_h
noncomputable def corbelref01_Put_I {R : Type} (k : Nat) : InlT R := inone
theorem corbelref01_Put_j0_eq {R : Type} (k : Nat) (K : EX → St → Option R) (v_214 : Int) (v_215 : Int) (v_216 : Bool) : corbelref01_Put_j0 (corbelref01_Put_j0_E0 K) (corbelref01_Put_j0_E1 K) k v_214 v_215 v_216 = ev tab (corbelref01_Put_F k) (inlK tab (corbelref01_Put_F k) (corbelref01_Put_I k) 0) (corbelref01_Put_O k) (obB corbelref01_Put_b 0) (obH corbelref01_Put_b 0) (corbelref01_Put_j0_S v_214 v_215 v_216) (fun e st => optb (clean corbelref01_Put_x0 st) fun st => K e st) := by kernel_rfl
theorem corbelref01_Put_j0_ok {R : Type} (k : Nat)  : ObOK (R := R) tab (corbelref01_Put_F k) (inlK tab (corbelref01_Put_F k) (corbelref01_Put_I k) 0) (corbelref01_Put_O k) (.join corbelref01_Put_c0 corbelref01_Put_x0 0 (obB corbelref01_Put_b 0) (obH corbelref01_Put_b 0)) :=
  join_ok (l := [corbelref01_Put_j0_a k]) (by kernel_rfl) ⟨(fun K x => (corbelref01_Put_j0_eq k K x.1.1 x.1.2.1 x.1.2.2.1).trans (by kernel_rfl)), trivial⟩
theorem corbelref01_Put_l1_eq {R : Type} (k : Nat) (K : EX → St → Option R) : ∀ (j : Nat) (v_222 : Int) (v_223 : Int) (v_224 : ByteArray) (v_225 : Int), corbelref01_Put_l1 (corbelref01_Put_l1_E0 K) k j v_222 v_223 v_224 v_225 = iter corbelref01_Put_c1 corbelref01_Put_x1 (ev tab (corbelref01_Put_F k) (inlK tab (corbelref01_Put_F k) (corbelref01_Put_I k) 0) (corbelref01_Put_O k) (obB corbelref01_Put_b 1) (obH corbelref01_Put_b 1)) j (corbelref01_Put_l1_S v_222 v_223 v_224 v_225) K
  | 0, _, _, _, _ => rfl
  | j + 1, v_222, v_223, v_224, v_225 => by
    have e : corbelref01_Put_l1 (corbelref01_Put_l1_E0 K) k j = fun v_222 v_223 v_224 v_225 => iter corbelref01_Put_c1 corbelref01_Put_x1 (ev tab (corbelref01_Put_F k) (inlK tab (corbelref01_Put_F k) (corbelref01_Put_I k) 0) (corbelref01_Put_O k) (obB corbelref01_Put_b 1) (obH corbelref01_Put_b 1)) j (corbelref01_Put_l1_S v_222 v_223 v_224 v_225) K := by funext v_222 v_223 v_224 v_225; exact corbelref01_Put_l1_eq k K j v_222 v_223 v_224 v_225
    show corbelref01_Put_l1s (corbelref01_Put_l1 (corbelref01_Put_l1_E0 K) k j) (corbelref01_Put_l1_E0 K) k v_222 v_223 v_224 v_225 = _
    rw [e, iter_succ]; kernel_rfl
theorem corbelref01_Put_l1_ok {R : Type} (k : Nat)  : ObOK (R := R) tab (corbelref01_Put_F k) (inlK tab (corbelref01_Put_F k) (corbelref01_Put_I k) 0) (corbelref01_Put_O k) (.loop corbelref01_Put_c1 corbelref01_Put_x1 1 (obB corbelref01_Put_b 1) (obH corbelref01_Put_b 1)) :=
  loop_ok (l := [corbelref01_Put_l1_a k]) (by kernel_rfl) ⟨(fun K x => ⟨k, (corbelref01_Put_l1_eq k K k x.1.1 x.1.2.1 x.1.2.2.1 x.1.2.2.2.1).trans (by kernel_rfl)⟩), trivial⟩
theorem corbelref01_Put_cuts {R : Type} (k : Nat) : ∀ c, Try.f12.body = some c → CutsOK (R := R) tab (corbelref01_Put_F k) (inlK tab (corbelref01_Put_F k) (corbelref01_Put_I k) 0) (corbelref01_Put_O k) c corbelref01_Put_h :=
  cuts_of (l := [.join corbelref01_Put_c0 corbelref01_Put_x0 0 (obB corbelref01_Put_b 0) (obH corbelref01_Put_b 0), .loop corbelref01_Put_c1 corbelref01_Put_x1 1 (obB corbelref01_Put_b 1) (obH corbelref01_Put_b 1)]) (by kernel_rfl) ⟨corbelref01_Put_j0_ok k, corbelref01_Put_l1_ok k, trivial⟩
theorem corbelref01_Put_iok {R : Type} (k : Nat) : IOK Try.prog tab (corbelref01_Put_F k) (corbelref01_Put_I (R := R) k) := iok_none
theorem corbelref01_Put_ev (k : Nat) (x : (corbelref01_Put_p k).τ.den) : evalF tab (corbelref01_Put_F k) (corbelref01_Put_p k) (corbelref01_Put_I k) 0 (corbelref01_Put_O k) corbelref01_Put_h Try.f12 x = (corbelref01_Put_p k).f x := by kernel_rfl
theorem corbelref01_Put_ok (k : Nat) : PFOK Try.prog 12 (corbelref01_Put_p k) := pfok mixed tabOK (corbelref01_Put_fok k) Try.func12 (I := corbelref01_Put_I k) (d := 0) (corbelref01_Put_iok k) (Q := corbelref01_Put_O k) (hi := corbelref01_Put_h) (corbelref01_Put_cuts k) (corbelref01_Put_ev k)
end Go.Proofs.Ytncdfikcdchimaa.Ev
