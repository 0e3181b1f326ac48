/- stripe_Pieces, told on plain data. Written by program. -/
import Derived.Test.YtkokbcijgikkgaaEtab
set_option linter.unusedVariables false
set_option maxRecDepth 1000000
namespace Go.Proofs.Ytkokbcijgikkgaa.Ev
open Go Go.RowKit Go.Proofs
def stripe_Pieces_j0 {R : Type} (e0 : Int → Int → Int → Option R) (e1 : Int → Int → Int → Option R) (k : Nat) (v_64 : Int) (v_65 : Int) (v_66 : Int) (v_67 : Bool) : Option R :=
  bif v_67 then
    e0 v_64 v_65 v_66
  else e1 v_64 v_65 v_66
def stripe_Pieces_l1s {R : Type} (rc : Int → Int → Int → Bool → List (Int × (Int × Int)) → Option R) (e0 : Bool → List (Int × (Int × Int)) → Option R) (k : Nat) (v_74 : Int) (v_75 : Int) (v_76 : Int) (v_77 : Bool) (v_78 : List (Int × (Int × Int))) : Option R :=
  bif (decide ((0 : Int) < v_76)) then
    bif (decide (v_74 = (0 : Int))) then
      none
    else bif (decide (v_74 = (0 : Int))) then
      none
    else let z_79 := (bif (decide ((wrap64 (v_74 - (Int.tmod v_75 v_74))) < v_76)) then (wrap64 (v_74 - (Int.tmod v_75 v_74))) else v_76)
    bif (decide (v_78.length + ([((wrap64 (Int.tdiv v_75 v_74)), ((Int.tmod v_75 v_74), z_79))] : List (Int × (Int × Int))).length ≤ 1099511627776)) then
      rc v_74 (wrap64 (v_75 + z_79)) (wrap64 (v_76 - z_79)) v_77 (v_78 ++ ([((wrap64 (Int.tdiv v_75 v_74)), ((Int.tmod v_75 v_74), z_79))] : List (Int × (Int × Int))))
    else none
  else e0 v_77 v_78
def stripe_Pieces_l1 {R : Type} (e0 : Bool → List (Int × (Int × Int)) → Option R) (k : Nat) : Nat → Int → Int → Int → Bool → List (Int × (Int × Int)) → Option R
  | 0 => fun _ _ _ _ _ => none
  | j + 1 => stripe_Pieces_l1s (stripe_Pieces_l1 e0 k j) e0 k
def stripe_Pieces_k0 (k : Nat) : Int → Int → Int → Option (Bool × List (Int × (Int × Int))) := fun v_68 v_69 v_70 =>
  some (true, ([] : List (Int × (Int × Int))))
def stripe_Pieces_k1 (k : Nat) : Int → Int → Int → Option (Bool × List (Int × (Int × Int))) := fun v_71 v_72 v_73 =>
  stripe_Pieces_l1 (fun v_81 v_82 =>
    some (v_81, v_82)) k k v_71 v_72 v_73 true ([] : List (Int × (Int × Int)))
def stripe_Pieces (k : Nat) (a0 : Int) (a1 : Int) (a2 : Int) : Option (Bool × List (Int × (Int × Int))) :=
  bif (decide (a0 < (1 : Int))) then
    stripe_Pieces_j0 (stripe_Pieces_k0 k) (stripe_Pieces_k1 k) k a0 a1 a2 true
  else bif (decide (a1 < (0 : Int))) then
    stripe_Pieces_j0 (stripe_Pieces_k0 k) (stripe_Pieces_k1 k) k a0 a1 a2 true
  else bif (decide (a2 < (1 : Int))) then
    stripe_Pieces_j0 (stripe_Pieces_k0 k) (stripe_Pieces_k1 k) k a0 a1 a2 true
  else bif (decide ((1099511627776 : Int) < a1)) then
    stripe_Pieces_j0 (stripe_Pieces_k0 k) (stripe_Pieces_k1 k) k a0 a1 a2 true
  else stripe_Pieces_j0 (stripe_Pieces_k0 k) (stripe_Pieces_k1 k) k a0 a1 a2 (decide ((wrap64 ((1099511627776 : Int) - a1)) < a2))
def stripe_Pieces_p (k : Nat) : PF := { ps := [(false, 1), (false, 1), (false, 1)], rs := [(false, 1)], τ := (.pair (.int .i64) (.pair (.int .i64) (.int .i64))), σ := (.sl (.pair (.int .i64) (.pair (.int .i64) (.int .i64)))), f := fun x => stripe_Pieces k x.1 x.2.1 x.2.2, fr := [some 54] }
def stripe_Pieces_F (k : Nat) : PT := fnone
theorem stripe_Pieces_fok (k : Nat) : FOK Try.prog tab (stripe_Pieces_F k) := fok_none
def stripe_Pieces_c0 : Cl := { keep := [0, 1, 2, 28], hl := 0, ad := [], adc := [], bump := [] }
def stripe_Pieces_x0 : Cl := { keep := [0, 1, 2, 6], hl := 0, ad := [], adc := [], bump := [] }
def stripe_Pieces_c1 : Cl := { keep := [0, 1, 2, 7], hl := 1, ad := [(7, (.pair (.int .i64) (.pair (.int .i64) (.int .i64))), 54)], adc := [], bump := [] }
def stripe_Pieces_x1 : Cl := { keep := [7], hl := 1, ad := [], adc := [], bump := [] }
def stripe_Pieces_h : Hint := (.sq .no (.sq (.ct stripe_Pieces_c0 stripe_Pieces_x0 0 .no .no) (.sq .no (.sq (.lp stripe_Pieces_c1 stripe_Pieces_x1 1 .no) .no))))
def stripe_Pieces_j0_E0 {R : Type} (K : EX → St → Option R) : Int → Int → Int → Option R := fun v0 v1 v2 => K .ret (mkSt 58 [] stripe_Pieces_x0.keep [.int .i64 v0, .int .i64 v1, .int .i64 v2, .nils] [])
def stripe_Pieces_j0_E1 {R : Type} (K : EX → St → Option R) : Int → Int → Int → Option R := fun v0 v1 v2 => K .normal (mkSt 58 [] stripe_Pieces_x0.keep [.int .i64 v0, .int .i64 v1, .int .i64 v2, .junk] [])
def stripe_Pieces_j0_S (v_64 : Int) (v_65 : Int) (v_66 : Int) (v_67 : Bool) : St := mkSt 58 [] stripe_Pieces_c0.keep [.int .i64 v_64, .int .i64 v_65, .int .i64 v_66, .bool v_67] []
def stripe_Pieces_j0_sh : Rd (List AV × List HE) := .pair (.cons (.int .i64) (.cons (.int .i64) (.cons (.int .i64) (.cons .bool Rd.nil)))) Rd.nil
def stripe_Pieces_j0_a {R : Type} (k : Nat) : Alt R := { n := 58, v := [], sh := stripe_Pieces_j0_sh, g := fun K x => stripe_Pieces_j0 (stripe_Pieces_j0_E0 K) (stripe_Pieces_j0_E1 K) k x.1.1 x.1.2.1 x.1.2.2.1 x.1.2.2.2.1 }
def stripe_Pieces_l1_E0 {R : Type} (K : EX → St → Option R) : Bool → List (Int × (Int × Int)) → Option R := fun v0 v1 => K (.exit 0) (mkSt 58 [] stripe_Pieces_x1.keep [.own 0 1] [.lst (.pair (.int .i64) (.pair (.int .i64) (.int .i64))) 54 v0 1 v1])
def stripe_Pieces_l1_S (v_74 : Int) (v_75 : Int) (v_76 : Int) (v_77 : Bool) (v_78 : List (Int × (Int × Int))) : St := mkSt 58 [] stripe_Pieces_c1.keep [.int .i64 v_74, .int .i64 v_75, .int .i64 v_76, .own 0 1] [.lst (.pair (.int .i64) (.pair (.int .i64) (.int .i64))) 54 v_77 1 v_78]
def stripe_Pieces_l1_sh : Rd (List AV × List HE) := .pair (.cons (.int .i64) (.cons (.int .i64) (.cons (.int .i64) (.cons (.own 0 1) Rd.nil)))) (.cons (.lst (.pair (.int .i64) (.pair (.int .i64) (.int .i64))) 54 1) Rd.nil)
def stripe_Pieces_l1_a {R : Type} (k : Nat) : Alt R := { n := 58, v := [], sh := stripe_Pieces_l1_sh, g := fun K x => stripe_Pieces_l1 (stripe_Pieces_l1_E0 K) k k x.1.1 x.1.2.1 x.1.2.2.1 x.2.1.1 x.2.1.2 }
def stripe_Pieces_O {R : Type} (k : Nat) : CutK R := cutsO [[stripe_Pieces_j0_a k], [stripe_Pieces_l1_a k]]
noncomputable def stripe_Pieces_b : List Ob := obs (bodyOf Try.f37) stripe_Pieces_h
noncomputable def stripe_Pieces_I {R : Type} (k : Nat) : InlT R := inone
theorem stripe_Pieces_j0_eq {R : Type} (k : Nat) (K : EX → St → Option R) (v_64 : Int) (v_65 : Int) (v_66 : Int) (v_67 : Bool) : stripe_Pieces_j0 (stripe_Pieces_j0_E0 K) (stripe_Pieces_j0_E1 K) k v_64 v_65 v_66 v_67 = ev tab (stripe_Pieces_F k) (inlK tab (stripe_Pieces_F k) (stripe_Pieces_I k) 0) (stripe_Pieces_O k) (obB stripe_Pieces_b 0) (obH stripe_Pieces_b 0) (stripe_Pieces_j0_S v_64 v_65 v_66 v_67) (fun e st => optb (clean stripe_Pieces_x0 st) fun st => K e st) := by kernel_rfl
theorem stripe_Pieces_j0_ok {R : Type} (k : Nat)  : ObOK (R := R) tab (stripe_Pieces_F k) (inlK tab (stripe_Pieces_F k) (stripe_Pieces_I k) 0) (stripe_Pieces_O k) (.join stripe_Pieces_c0 stripe_Pieces_x0 0 (obB stripe_Pieces_b 0) (obH stripe_Pieces_b 0)) :=
  join_ok (l := [stripe_Pieces_j0_a k]) (by kernel_rfl) ⟨(fun K x => (stripe_Pieces_j0_eq k K x.1.1 x.1.2.1 x.1.2.2.1 x.1.2.2.2.1).trans (by kernel_rfl)), trivial⟩
theorem stripe_Pieces_l1_eq {R : Type} (k : Nat) (K : EX → St → Option R) : ∀ (j : Nat) (v_74 : Int) (v_75 : Int) (v_76 : Int) (v_77 : Bool) (v_78 : List (Int × (Int × Int))), stripe_Pieces_l1 (stripe_Pieces_l1_E0 K) k j v_74 v_75 v_76 v_77 v_78 = iter stripe_Pieces_c1 stripe_Pieces_x1 (ev tab (stripe_Pieces_F k) (inlK tab (stripe_Pieces_F k) (stripe_Pieces_I k) 0) (stripe_Pieces_O k) (obB stripe_Pieces_b 1) (obH stripe_Pieces_b 1)) j (stripe_Pieces_l1_S v_74 v_75 v_76 v_77 v_78) K
  | 0, _, _, _, _, _ => rfl
  | j + 1, v_74, v_75, v_76, v_77, v_78 => by
    have e : stripe_Pieces_l1 (stripe_Pieces_l1_E0 K) k j = fun v_74 v_75 v_76 v_77 v_78 => iter stripe_Pieces_c1 stripe_Pieces_x1 (ev tab (stripe_Pieces_F k) (inlK tab (stripe_Pieces_F k) (stripe_Pieces_I k) 0) (stripe_Pieces_O k) (obB stripe_Pieces_b 1) (obH stripe_Pieces_b 1)) j (stripe_Pieces_l1_S v_74 v_75 v_76 v_77 v_78) K := by funext v_74 v_75 v_76 v_77 v_78; exact stripe_Pieces_l1_eq k K j v_74 v_75 v_76 v_77 v_78
    show stripe_Pieces_l1s (stripe_Pieces_l1 (stripe_Pieces_l1_E0 K) k j) (stripe_Pieces_l1_E0 K) k v_74 v_75 v_76 v_77 v_78 = _
    rw [e, iter_succ]; kernel_rfl
theorem stripe_Pieces_l1_ok {R : Type} (k : Nat)  : ObOK (R := R) tab (stripe_Pieces_F k) (inlK tab (stripe_Pieces_F k) (stripe_Pieces_I k) 0) (stripe_Pieces_O k) (.loop stripe_Pieces_c1 stripe_Pieces_x1 1 (obB stripe_Pieces_b 1) (obH stripe_Pieces_b 1)) :=
  loop_ok (l := [stripe_Pieces_l1_a k]) (by kernel_rfl) ⟨(fun K x => ⟨k, (stripe_Pieces_l1_eq k K k x.1.1 x.1.2.1 x.1.2.2.1 x.2.1.1 x.2.1.2).trans (by kernel_rfl)⟩), trivial⟩
theorem stripe_Pieces_cuts {R : Type} (k : Nat) : ∀ c, Try.f37.body = some c → CutsOK (R := R) tab (stripe_Pieces_F k) (inlK tab (stripe_Pieces_F k) (stripe_Pieces_I k) 0) (stripe_Pieces_O k) c stripe_Pieces_h :=
  cuts_of (l := [.join stripe_Pieces_c0 stripe_Pieces_x0 0 (obB stripe_Pieces_b 0) (obH stripe_Pieces_b 0), .loop stripe_Pieces_c1 stripe_Pieces_x1 1 (obB stripe_Pieces_b 1) (obH stripe_Pieces_b 1)]) (by kernel_rfl) ⟨stripe_Pieces_j0_ok k, stripe_Pieces_l1_ok k, trivial⟩
theorem stripe_Pieces_iok {R : Type} (k : Nat) : IOK Try.prog tab (stripe_Pieces_F k) (stripe_Pieces_I (R := R) k) := iok_none
theorem stripe_Pieces_ev (k : Nat) (x : (stripe_Pieces_p k).τ.den) : evalF tab (stripe_Pieces_F k) (stripe_Pieces_p k) (stripe_Pieces_I k) 0 (stripe_Pieces_O k) stripe_Pieces_h Try.f37 x = (stripe_Pieces_p k).f x := by kernel_rfl
theorem stripe_Pieces_ok (k : Nat) : PFOK Try.prog tab 37 (stripe_Pieces_p k) := pfok mixed tabOK (stripe_Pieces_fok k) Try.func37 (I := stripe_Pieces_I k) (d := 0) (stripe_Pieces_iok k) (Q := stripe_Pieces_O k) (hi := stripe_Pieces_h) (stripe_Pieces_cuts k) (stripe_Pieces_ev k)
end Go.Proofs.Ytkokbcijgikkgaa.Ev
