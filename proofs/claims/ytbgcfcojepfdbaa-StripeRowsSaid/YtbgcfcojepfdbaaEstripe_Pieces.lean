/- stripe_Pieces, told on plain data. Written by program. -/
import Derived.Test.YtbgcfcojepfdbaaEtab
set_option linter.unusedVariables false
set_option maxRecDepth 1000000
namespace Go.Proofs.Ytbgcfcojepfdbaa.Ev
open Go Go.RowKit Go.Proofs
def stripe_Pieces_j0 {R : Type} (e0 : Option R) (e1 : Option R) (k : Nat) (v_87 : Bool) : Option R :=
  bif v_87 then
    e0
  else e1
def stripe_Pieces_l1s {R : Type} (rc : Int → Int → List (Int × (Int × Int)) → Option R) (e0 : List (Int × (Int × Int)) → Option R) (k : Nat) (blocks_94 : Int) (from_95 : Int) (n_96 : Int) (out_98 : List (Int × (Int × Int))) : Option R :=
  bif (decide ((0 : Int) < n_96)) then
    bif (decide (blocks_94 = (0 : Int))) then
      none
    else bif (decide (blocks_94 = (0 : Int))) then
      none
    else let z_99 := (wrap64 (blocks_94 - (Int.tmod from_95 blocks_94)))
    let z_100 := (bif (decide (z_99 < n_96)) then z_99 else n_96)
    bif (decide (out_98.length + ([((wrap64 (Int.tdiv from_95 blocks_94)), ((Int.tmod from_95 blocks_94), z_100))] : List (Int × (Int × Int))).length ≤ 1099511627776)) then
      rc (wrap64 (from_95 + z_100)) (wrap64 (n_96 - z_100)) (out_98 ++ ([((wrap64 (Int.tdiv from_95 blocks_94)), ((Int.tmod from_95 blocks_94), z_100))] : List (Int × (Int × Int))))
    else none
  else e0 out_98
def stripe_Pieces_l1 {R : Type} (e0 : List (Int × (Int × Int)) → Option R) (k : Nat) (blocks_94 : Int) : Nat → Int → Int → List (Int × (Int × Int)) → Option R
  | 0 => fun _ _ _ => none
  | j + 1 => stripe_Pieces_l1s (stripe_Pieces_l1 e0 k blocks_94 j) e0 k blocks_94
def stripe_Pieces_k0 (k : Nat) : Option (Bool × List (Int × (Int × Int))) := 
  some (true, ([] : List (Int × (Int × Int))))
def stripe_Pieces_k1 (k : Nat) (blocks_33 : Int) (from_34 : Int) (n_35 : Int) : Option (Bool × List (Int × (Int × Int))) := 
  stripe_Pieces_l1 (fun out_103 =>
    some (true, out_103)) k blocks_33 k from_34 n_35 ([] : List (Int × (Int × Int)))
def stripe_Pieces (k : Nat) (blocks_33 : Int) (from_34 : Int) (n_35 : Int) : Option (Bool × List (Int × (Int × Int))) :=
  bif (decide (blocks_33 < (1 : Int))) then
    stripe_Pieces_j0 (stripe_Pieces_k0 k) (stripe_Pieces_k1 k blocks_33 from_34 n_35) k true
  else bif (decide (from_34 < (0 : Int))) then
    stripe_Pieces_j0 (stripe_Pieces_k0 k) (stripe_Pieces_k1 k blocks_33 from_34 n_35) k true
  else bif (decide (n_35 < (1 : Int))) then
    stripe_Pieces_j0 (stripe_Pieces_k0 k) (stripe_Pieces_k1 k blocks_33 from_34 n_35) k true
  else bif (decide ((1099511627776 : Int) < from_34)) then
    stripe_Pieces_j0 (stripe_Pieces_k0 k) (stripe_Pieces_k1 k blocks_33 from_34 n_35) k true
  else stripe_Pieces_j0 (stripe_Pieces_k0 k) (stripe_Pieces_k1 k blocks_33 from_34 n_35) k (decide ((wrap64 ((1099511627776 : Int) - from_34)) < n_35))
def stripe_Pieces_p (k : Nat) : PF := { ps := [(false, 1), (false, 1), (false, 1)], rs := [(false, 1)], τ := (.pair (.int .i64) (.pair (.int .i64) (.int .i64))), σ := (.sl (.pair (.int .i64) (.pair (.int .i64) (.int .i64)))), f := fun x => stripe_Pieces k x.1 x.2.1 x.2.2, fr := [some 74] }
def stripe_Pieces_F (k : Nat) : PT := fnone
theorem stripe_Pieces_fok (k : Nat) : FOK Try.prog tab (stripe_Pieces_F k) := fok_none
def stripe_Pieces_c0 : Cl := { keep := [0, 1, 2, 28], hl := 0, ad := [], adc := [], bump := [] }
def stripe_Pieces_x0 : Cl := { keep := [0, 1, 2, 6], hl := 0, ad := [], adc := [], bump := [] }
def stripe_Pieces_c1 : Cl := { keep := [0, 1, 2, 7], hl := 1, ad := [(7, (.pair (.int .i64) (.pair (.int .i64) (.int .i64))), 74)], adc := [], bump := [] }
def stripe_Pieces_x1 : Cl := { keep := [7], hl := 1, ad := [], adc := [], bump := [] }
def stripe_Pieces_h : Hint := (.sq .no (.sq (.ct stripe_Pieces_c0 stripe_Pieces_x0 0 .no .no) (.sq .no (.sq (.lp stripe_Pieces_c1 stripe_Pieces_x1 1 .no) .no))))
def stripe_Pieces_j0_E0 {R : Type} (K : EX → St → Option R) : Int → Int → Int → Option R := fun v0 v1 v2 => K .ret (mkSt 58 [] stripe_Pieces_x0.keep [.int .i64 v0, .int .i64 v1, .int .i64 v2, .nils] [])
def stripe_Pieces_j0_E1 {R : Type} (K : EX → St → Option R) : Int → Int → Int → Option R := fun v0 v1 v2 => K .normal (mkSt 58 [] stripe_Pieces_x0.keep [.int .i64 v0, .int .i64 v1, .int .i64 v2, .junk] [])
def stripe_Pieces_j0_S (blocks_84 : Int) (from_85 : Int) (n_86 : Int) (v_87 : Bool) : St := mkSt 58 [] stripe_Pieces_c0.keep [.int .i64 blocks_84, .int .i64 from_85, .int .i64 n_86, .bool v_87] []
def stripe_Pieces_j0_sh : Rd (List AV × List HE) := .pair (.cons (.int .i64) (.cons (.int .i64) (.cons (.int .i64) (.cons .bool Rd.nil)))) Rd.nil
def stripe_Pieces_j0_a {R : Type} (k : Nat) : Alt R := { n := 58, v := [], sh := stripe_Pieces_j0_sh, g := fun K x => stripe_Pieces_j0 (stripe_Pieces_j0_E0 K x.1.1 x.1.2.1 x.1.2.2.1) (stripe_Pieces_j0_E1 K x.1.1 x.1.2.1 x.1.2.2.1) k x.1.2.2.2.1 }
def stripe_Pieces_l1_E0 {R : Type} (K : EX → St → Option R) : Bool → List (Int × (Int × Int)) → Option R := fun v0 v1 => K (.exit 0) (mkSt 58 [] stripe_Pieces_x1.keep [.own 0 1] [.lst (.pair (.int .i64) (.pair (.int .i64) (.int .i64))) 74 v0 1 v1])
def stripe_Pieces_l1_S (blocks_94 : Int) (from_95 : Int) (n_96 : Int) (outN_97 : Bool) (out_98 : List (Int × (Int × Int))) : St := mkSt 58 [] stripe_Pieces_c1.keep [.int .i64 blocks_94, .int .i64 from_95, .int .i64 n_96, .own 0 1] [.lst (.pair (.int .i64) (.pair (.int .i64) (.int .i64))) 74 outN_97 1 out_98]
def stripe_Pieces_l1_sh : Rd (List AV × List HE) := .pair (.cons (.int .i64) (.cons (.int .i64) (.cons (.int .i64) (.cons (.own 0 1) Rd.nil)))) (.cons (.lst (.pair (.int .i64) (.pair (.int .i64) (.int .i64))) 74 1) Rd.nil)
def stripe_Pieces_l1_a {R : Type} (k : Nat) : Alt R := { n := 58, v := [], sh := stripe_Pieces_l1_sh, g := fun K x => stripe_Pieces_l1 (fun y1 => stripe_Pieces_l1_E0 K x.2.1.1 y1) k x.1.1 k x.1.2.1 x.1.2.2.1 x.2.1.2 }
def stripe_Pieces_O {R : Type} (k : Nat) : CutK R := cutsO [[stripe_Pieces_j0_a k], [stripe_Pieces_l1_a k]]
noncomputable def stripe_Pieces_b : List Ob := obs (bodyOf Try.f36) stripe_Pieces_h
noncomputable def stripe_Pieces_I {R : Type} (k : Nat) : InlT R := inone
theorem stripe_Pieces_j0_eq {R : Type} (k : Nat) (K : EX → St → Option R) (blocks_84 : Int) (from_85 : Int) (n_86 : Int) (v_87 : Bool) : stripe_Pieces_j0 (stripe_Pieces_j0_E0 K blocks_84 from_85 n_86) (stripe_Pieces_j0_E1 K blocks_84 from_85 n_86) k v_87 = ev tab (stripe_Pieces_F k) (inlK tab (stripe_Pieces_F k) (stripe_Pieces_I k) 0) (stripe_Pieces_O k) (obB stripe_Pieces_b 0) (obH stripe_Pieces_b 0) (stripe_Pieces_j0_S blocks_84 from_85 n_86 v_87) (fun e st => optb (clean stripe_Pieces_x0 st) fun st => K e st) := by kernel_rfl
theorem stripe_Pieces_j0_ok {R : Type} (k : Nat)  : ObOK (R := R) tab (stripe_Pieces_F k) (inlK tab (stripe_Pieces_F k) (stripe_Pieces_I k) 0) (stripe_Pieces_O k) (.join stripe_Pieces_c0 stripe_Pieces_x0 0 (obB stripe_Pieces_b 0) (obH stripe_Pieces_b 0)) :=
  join_ok (l := [stripe_Pieces_j0_a k]) (by kernel_rfl) ⟨(fun K x => (stripe_Pieces_j0_eq k K x.1.1 x.1.2.1 x.1.2.2.1 x.1.2.2.2.1).trans (by kernel_rfl)), trivial⟩
theorem stripe_Pieces_l1_eq {R : Type} (k : Nat) (K : EX → St → Option R) (blocks_94 : Int) (outN_97 : Bool) : ∀ (j : Nat) (from_95 : Int) (n_96 : Int) (out_98 : List (Int × (Int × Int))), stripe_Pieces_l1 (fun y1 => stripe_Pieces_l1_E0 K outN_97 y1) k blocks_94 j from_95 n_96 out_98 = iter stripe_Pieces_c1 stripe_Pieces_x1 (ev tab (stripe_Pieces_F k) (inlK tab (stripe_Pieces_F k) (stripe_Pieces_I k) 0) (stripe_Pieces_O k) (obB stripe_Pieces_b 1) (obH stripe_Pieces_b 1)) j (stripe_Pieces_l1_S blocks_94 from_95 n_96 outN_97 out_98) K
  | 0, _, _, _ => rfl
  | j + 1, from_95, n_96, out_98 => by
    have e : stripe_Pieces_l1 (fun y1 => stripe_Pieces_l1_E0 K outN_97 y1) k blocks_94 j = fun from_95 n_96 out_98 => iter stripe_Pieces_c1 stripe_Pieces_x1 (ev tab (stripe_Pieces_F k) (inlK tab (stripe_Pieces_F k) (stripe_Pieces_I k) 0) (stripe_Pieces_O k) (obB stripe_Pieces_b 1) (obH stripe_Pieces_b 1)) j (stripe_Pieces_l1_S blocks_94 from_95 n_96 outN_97 out_98) K := by funext from_95 n_96 out_98; exact stripe_Pieces_l1_eq k K blocks_94 outN_97 j from_95 n_96 out_98
    show stripe_Pieces_l1s (stripe_Pieces_l1 (fun y1 => stripe_Pieces_l1_E0 K outN_97 y1) k blocks_94 j) (fun y1 => stripe_Pieces_l1_E0 K outN_97 y1) k blocks_94 from_95 n_96 out_98 = _
    rw [e, iter_succ]; kernel_rfl
theorem stripe_Pieces_l1_ok {R : Type} (k : Nat)  : ObOK (R := R) tab (stripe_Pieces_F k) (inlK tab (stripe_Pieces_F k) (stripe_Pieces_I k) 0) (stripe_Pieces_O k) (.loop stripe_Pieces_c1 stripe_Pieces_x1 1 (obB stripe_Pieces_b 1) (obH stripe_Pieces_b 1)) :=
  loop_ok (l := [stripe_Pieces_l1_a k]) (by kernel_rfl) ⟨(fun K x => ⟨k, (stripe_Pieces_l1_eq k K x.1.1 x.2.1.1 k x.1.2.1 x.1.2.2.1 x.2.1.2).trans (by kernel_rfl)⟩), trivial⟩
theorem stripe_Pieces_cuts {R : Type} (k : Nat) : ∀ c, Try.f36.body = some c → CutsOK (R := R) tab (stripe_Pieces_F k) (inlK tab (stripe_Pieces_F k) (stripe_Pieces_I k) 0) (stripe_Pieces_O k) c stripe_Pieces_h :=
  cuts_of (l := [.join stripe_Pieces_c0 stripe_Pieces_x0 0 (obB stripe_Pieces_b 0) (obH stripe_Pieces_b 0), .loop stripe_Pieces_c1 stripe_Pieces_x1 1 (obB stripe_Pieces_b 1) (obH stripe_Pieces_b 1)]) (by kernel_rfl) ⟨stripe_Pieces_j0_ok k, stripe_Pieces_l1_ok k, trivial⟩
theorem stripe_Pieces_iok {R : Type} (k : Nat) : IOK Try.prog tab (stripe_Pieces_F k) (stripe_Pieces_I (R := R) k) := iok_none
theorem stripe_Pieces_ev (k : Nat) (x : (stripe_Pieces_p k).τ.den) : evalF tab (stripe_Pieces_F k) (stripe_Pieces_p k) (stripe_Pieces_I k) 0 (stripe_Pieces_O k) stripe_Pieces_h Try.f36 x = (stripe_Pieces_p k).f x := by kernel_rfl
theorem stripe_Pieces_ok (k : Nat) : PFOK Try.prog tab 36 (stripe_Pieces_p k) := pfok mixed tabOK (stripe_Pieces_fok k) Try.func36 (I := stripe_Pieces_I k) (d := 0) (stripe_Pieces_iok k) (Q := stripe_Pieces_O k) (hi := stripe_Pieces_h) (stripe_Pieces_cuts k) (stripe_Pieces_ev k)
end Go.Proofs.Ytbgcfcojepfdbaa.Ev
