/- geom_Place, told on plain data. Written by program. -/
import Derived.Test.YtkokbcijgikkgaaEgeom_there
import Derived.Test.YtkokbcijgikkgaaEgeom_Capacity
import Derived.Test.YtkokbcijgikkgaaEgeom_within
import Derived.Test.YtkokbcijgikkgaaEgeom_Parity
set_option linter.unusedVariables false
set_option maxRecDepth 1000000
namespace Go.Proofs.Ytkokbcijgikkgaa.Ev
open Go Go.RowKit Go.Proofs
def geom_Place_j0 {R : Type} (e0 : Int → Int → Int → Int → Bool → Int → Int → Int → Int → Int → Option R) (e1 : Int → Int → Int → Int → Int → Int → Int → Option R) (k : Nat) (v_36 : Int) (v_37 : Int) (v_38 : Bool) (v_39 : Int) (v_40 : Int) (v_41 : Int) (v_42 : Int) (v_43 : Int) : Option R :=
  bif v_38 then
    e0 v_36 v_37 (0 : Int) (0 : Int) false v_39 v_40 v_41 v_42 v_43
  else e1 v_36 v_37 v_39 v_40 v_41 v_42 v_43
def geom_Place_k0 (k : Nat) : Int → Int → Int → Int → Bool → Int → Int → Int → Int → Int → Option (Int × (Int × Bool)) := fun v_44 v_45 v_46 v_47 v_48 v_49 v_50 v_51 v_52 v_53 =>
  some (v_46, (v_47, v_48))
def geom_Place_k1 (k : Nat) : Int → Int → Int → Int → Int → Int → Int → Option (Int × (Int × Bool)) := fun v_54 v_55 v_56 v_57 v_58 v_59 v_60 =>
  bif (decide ((wrap64 (v_56 - (1 : Int))) = (0 : Int))) then
    none
  else let z_61 := (wrap64 (Int.tdiv v_55 (wrap64 (v_56 - (1 : Int)))))
  bif (decide ((wrap64 (v_56 - (1 : Int))) = (0 : Int))) then
    none
  else optb (geom_Parity k v_56 v_57 v_58 v_59 v_60 v_54 z_61) fun r_64 =>
  bif (decide (v_56 = (0 : Int))) then
    none
  else some (z_61, ((Int.tmod (wrap64 ((wrap64 (r_64 + (1 : Int))) + (Int.tmod v_55 (wrap64 (v_56 - (1 : Int)))))) v_56), true))
def geom_Place (k : Nat) (a0 : Int) (a1 : Int) (a2 : Int) (a3 : Int) (a4 : Int) (a5 : Int) (a6 : Int) : Option (Int × (Int × Bool)) :=
  optb (geom_there k a0 a1 a2 a3 a4 a5 (0 : Int)) fun r_35 =>
  bif (!r_35) then
    geom_Place_j0 (geom_Place_k0 k) (geom_Place_k1 k) k a5 a6 true a0 a1 a2 a3 a4
  else optb (geom_Capacity k a0 a1 a2 a3 a4) fun r_66 =>
  optb (geom_within k a6 (0 : Int) (wrap64 (r_66 - (1 : Int)))) fun r_67 =>
  geom_Place_j0 (geom_Place_k0 k) (geom_Place_k1 k) k a5 a6 (!r_67) a0 a1 a2 a3 a4
def geom_Place_p (k : Nat) : PF := { ps := [(true, 5), (false, 1), (false, 1)], rs := [(false, 1), (false, 1), (false, 1)], τ := (.pair (.pair (.int .i64) (.pair (.int .i64) (.pair (.int .i64) (.pair (.int .i64) (.int .i64))))) (.pair (.int .i64) (.int .i64))), σ := (.pair (.int .i64) (.pair (.int .i64) .bool)), f := fun x => geom_Place k x.1.1 x.1.2.1 x.1.2.2.1 x.1.2.2.2.1 x.1.2.2.2.2 x.2.1 x.2.2 }
def geom_Place_F (k : Nat) : PT := fcons 49 (geom_there_p k) <| fcons 27 (geom_Capacity_p k) <| fcons 48 (geom_within_p k) <| fcons 18 (geom_Parity_p k) <| fnone
theorem geom_Place_fok (k : Nat) : FOK Try.prog (geom_Place_F k) := fok_cons (geom_there_ok k) Try.call49 <| fok_cons (geom_Capacity_ok k) Try.call27 <| fok_cons (geom_within_ok k) Try.call48 <| fok_cons (geom_Parity_ok k) Try.call18 <| fok_none
def geom_Place_c0 : Cl := { keep := [1, 2, 3, 22], hl := 1, ad := [], adc := [], bump := [] }
def geom_Place_x0 : Cl := { keep := [1, 2, 3, 6, 7, 8], hl := 1, ad := [], adc := [], bump := [] }
def geom_Place_h : Hint := (.sq .no (.sq (.ct geom_Place_c0 geom_Place_x0 0 .no .no) .no))
def geom_Place_j0_E0 {R : Type} (K : EX → St → Option R) : Int → Int → Int → Int → Bool → Int → Int → Int → Int → Int → Option R := fun v0 v1 v2 v3 v4 v5 v6 v7 v8 v9 => K .ret (mkSt 44 [] geom_Place_x0.keep [.int .i64 v0, .int .i64 v1, .ptr 0 0, .int .i64 v2, .int .i64 v3, .bool v4] [.blk [.int .i64 v5, .int .i64 v6, .int .i64 v7, .int .i64 v8, .int .i64 v9]])
def geom_Place_j0_E1 {R : Type} (K : EX → St → Option R) : Int → Int → Int → Int → Int → Int → Int → Option R := fun v0 v1 v2 v3 v4 v5 v6 => K .normal (mkSt 44 [] geom_Place_x0.keep [.int .i64 v0, .int .i64 v1, .ptr 0 0, .junk, .junk, .junk] [.blk [.int .i64 v2, .int .i64 v3, .int .i64 v4, .int .i64 v5, .int .i64 v6]])
def geom_Place_j0_S (v_36 : Int) (v_37 : Int) (v_38 : Bool) (v_39 : Int) (v_40 : Int) (v_41 : Int) (v_42 : Int) (v_43 : Int) : St := mkSt 44 [] geom_Place_c0.keep [.int .i64 v_36, .int .i64 v_37, .ptr 0 0, .bool v_38] [.blk [.int .i64 v_39, .int .i64 v_40, .int .i64 v_41, .int .i64 v_42, .int .i64 v_43]]
def geom_Place_j0_sh : Rd (List AV × List HE) := .pair (.cons (.int .i64) (.cons (.int .i64) (.cons (.ptr 0 0) (.cons .bool Rd.nil)))) (.cons (.blk (.cons (.int .i64) (.cons (.int .i64) (.cons (.int .i64) (.cons (.int .i64) (.cons (.int .i64) Rd.nil)))))) Rd.nil)
def geom_Place_j0_a {R : Type} (k : Nat) : Alt R := { n := 44, v := [], sh := geom_Place_j0_sh, g := fun K x => geom_Place_j0 (geom_Place_j0_E0 K) (geom_Place_j0_E1 K) k x.1.1 x.1.2.1 x.1.2.2.2.1 x.2.1.1 x.2.1.2.1 x.2.1.2.2.1 x.2.1.2.2.2.1 x.2.1.2.2.2.2.1 }
def geom_Place_O {R : Type} (k : Nat) : CutK R := cutsO [[geom_Place_j0_a k]]
noncomputable def geom_Place_b : List Ob := obs (bodyOf Try.f19) geom_Place_h
noncomputable def geom_Place_I {R : Type} (k : Nat) : InlT R := inone
theorem geom_Place_j0_eq {R : Type} (k : Nat) (K : EX → St → Option R) (v_36 : Int) (v_37 : Int) (v_38 : Bool) (v_39 : Int) (v_40 : Int) (v_41 : Int) (v_42 : Int) (v_43 : Int) : geom_Place_j0 (geom_Place_j0_E0 K) (geom_Place_j0_E1 K) k v_36 v_37 v_38 v_39 v_40 v_41 v_42 v_43 = ev tab (geom_Place_F k) (inlK tab (geom_Place_F k) (geom_Place_I k) 0) (geom_Place_O k) (obB geom_Place_b 0) (obH geom_Place_b 0) (geom_Place_j0_S v_36 v_37 v_38 v_39 v_40 v_41 v_42 v_43) (fun e st => optb (clean geom_Place_x0 st) fun st => K e st) := by kernel_rfl
theorem geom_Place_j0_ok {R : Type} (k : Nat)  : ObOK (R := R) tab (geom_Place_F k) (inlK tab (geom_Place_F k) (geom_Place_I k) 0) (geom_Place_O k) (.join geom_Place_c0 geom_Place_x0 0 (obB geom_Place_b 0) (obH geom_Place_b 0)) :=
  join_ok (l := [geom_Place_j0_a k]) (by kernel_rfl) ⟨(fun K x => (geom_Place_j0_eq k K x.1.1 x.1.2.1 x.1.2.2.2.1 x.2.1.1 x.2.1.2.1 x.2.1.2.2.1 x.2.1.2.2.2.1 x.2.1.2.2.2.2.1).trans (by kernel_rfl)), trivial⟩
theorem geom_Place_cuts {R : Type} (k : Nat) : ∀ c, Try.f19.body = some c → CutsOK (R := R) tab (geom_Place_F k) (inlK tab (geom_Place_F k) (geom_Place_I k) 0) (geom_Place_O k) c geom_Place_h :=
  cuts_of (l := [.join geom_Place_c0 geom_Place_x0 0 (obB geom_Place_b 0) (obH geom_Place_b 0)]) (by kernel_rfl) ⟨geom_Place_j0_ok k, trivial⟩
theorem geom_Place_iok {R : Type} (k : Nat) : IOK Try.prog tab (geom_Place_F k) (geom_Place_I (R := R) k) := iok_none
theorem geom_Place_ev (k : Nat) (x : (geom_Place_p k).τ.den) : evalF tab (geom_Place_F k) (geom_Place_p k) (geom_Place_I k) 0 (geom_Place_O k) geom_Place_h Try.f19 x = (geom_Place_p k).f x := by kernel_rfl
theorem geom_Place_ok (k : Nat) : PFOK Try.prog 19 (geom_Place_p k) := pfok mixed tabOK (geom_Place_fok k) Try.func19 (I := geom_Place_I k) (d := 0) (geom_Place_iok k) (Q := geom_Place_O k) (hi := geom_Place_h) (geom_Place_cuts k) (geom_Place_ev k)
end Go.Proofs.Ytkokbcijgikkgaa.Ev
