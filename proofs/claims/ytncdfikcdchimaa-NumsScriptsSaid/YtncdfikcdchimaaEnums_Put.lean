/- nums_Put, told on plain data. Written by program. -/
import Derived.Test.YtncdfikcdchimaaEtab
set_option linter.unusedVariables false
set_option maxRecDepth 1000000
namespace Go.Proofs.Ytncdfikcdchimaa.Ev
open Go Go.RowKit Go.Proofs
def nums_Put_j0 {R : Type} (e0 : ByteArray → Option R) (e1 : Option R) (k : Nat) (v_133 : Bool) : Option R :=
  bif v_133 then
    e0 (⟨#[]⟩ : ByteArray)
  else e1
def nums_Put_l1s {R : Type} (rc : Int → List Int → Option R) (e0 : List Int → Option R) (k : Nat) (n_140 : Int) (width_141 : Int) (v_142 : Int) (v_143 : Int) (b_145 : List Int) : Option R :=
  bif (decide (v_143 < v_142)) then
    let z_150 := (wrap64 ((wrap64 (width_141 - (1 : Int))) - v_143))
    bif (decide ((wrap64 ((8 : Int) * z_150)) < (0 : Int))) then
      none
    else bif ((decide ((0 : Int) ≤ v_143)) && (decide (v_143 < (lenI b_145)))) then
      optb (b_145[v_143.toNat]?) fun x_152 =>
      rc (wrap64 (v_143 + (1 : Int))) (List.set b_145 v_143.toNat (IntKind.u8.wrap (shrv .i64 n_140 (wrap64 ((8 : Int) * z_150)))))
    else none
  else e0 b_145
def nums_Put_l1 {R : Type} (e0 : List Int → Option R) (k : Nat) (n_140 : Int) (width_141 : Int) (v_142 : Int) : Nat → Int → List Int → Option R
  | 0 => fun _ _ => none
  | j + 1 => nums_Put_l1s (nums_Put_l1 e0 k n_140 width_141 v_142 j) e0 k n_140 width_141 v_142
def nums_Put_k0 (k : Nat) : ByteArray → Option ByteArray := fun v_136 =>
  some v_136
def nums_Put_k1 (k : Nat) (n_93 : Int) (width_94 : Int) : Option ByteArray := 
  bif (((decide ((0 : Int) ≤ width_94)) && (decide (width_94 ≤ width_94))) && (decide (width_94 ≤ (1099511627776 : Int)))) then
    let z_139 := (List.replicate width_94.toNat (Ty.zero (.int .u8)))
    nums_Put_l1 (fun b_155 =>
      some (bytesOf b_155)) k n_93 width_94 (lenI z_139) k (0 : Int) z_139
  else none
def nums_Put (k : Nat) (n_93 : Int) (width_94 : Int) : Option ByteArray :=
  bif (decide (width_94 < (1 : Int))) then
    nums_Put_j0 (nums_Put_k0 k) (nums_Put_k1 k n_93 width_94) k true
  else bif (decide ((7 : Int) < width_94)) then
    nums_Put_j0 (nums_Put_k0 k) (nums_Put_k1 k n_93 width_94) k true
  else bif (decide (n_93 < (0 : Int))) then
    nums_Put_j0 (nums_Put_k0 k) (nums_Put_k1 k n_93 width_94) k true
  else bif (decide ((wrap64 ((8 : Int) * width_94)) < (0 : Int))) then
    none
  else nums_Put_j0 (nums_Put_k0 k) (nums_Put_k1 k n_93 width_94) k (!(decide ((shrv .i64 n_93 (wrap64 ((8 : Int) * width_94))) = (0 : Int))))
def nums_Put_p (k : Nat) : PF := { ps := [(false, 1), (false, 1)], rs := [(false, 1)], τ := (.pair (.int .i64) (.int .i64)), σ := .str, f := fun x => nums_Put k x.1 x.2 }
def nums_Put_F (k : Nat) : PT := fnone
theorem nums_Put_fok (k : Nat) : FOK Try.prog tab (nums_Put_F k) := fok_none
def nums_Put_c0 : Cl := { keep := [0, 1, 23], hl := 0, ad := [], adc := [], bump := [] }
def nums_Put_x0 : Cl := { keep := [0, 1, 4], hl := 0, ad := [], adc := [], bump := [] }
def nums_Put_c1 : Cl := { keep := [0, 1, 5, 27, 28], hl := 1, ad := [], adc := [], bump := [] }
def nums_Put_x1 : Cl := { keep := [5], hl := 1, ad := [], adc := [], bump := [] }
def nums_Put_h : Hint := (.sq .no (.sq (.ct nums_Put_c0 nums_Put_x0 0 .no .no) (.sq .no (.sq (.sq .no (.lp nums_Put_c1 nums_Put_x1 1 .no)) .no))))
def nums_Put_j0_E0 {R : Type} (K : EX → St → Option R) : Int → Int → ByteArray → Option R := fun v0 v1 v2 => K .ret (mkSt 45 [] nums_Put_x0.keep [.int .i64 v0, .int .i64 v1, .str v2] [])
def nums_Put_j0_E1 {R : Type} (K : EX → St → Option R) : Int → Int → Option R := fun v0 v1 => K .normal (mkSt 45 [] nums_Put_x0.keep [.int .i64 v0, .int .i64 v1, .junk] [])
def nums_Put_j0_S (n_131 : Int) (width_132 : Int) (v_133 : Bool) : St := mkSt 45 [] nums_Put_c0.keep [.int .i64 n_131, .int .i64 width_132, .bool v_133] []
def nums_Put_j0_sh : Rd (List AV × List HE) := .pair (.cons (.int .i64) (.cons (.int .i64) (.cons .bool Rd.nil))) Rd.nil
def nums_Put_j0_a {R : Type} (k : Nat) : Alt R := { n := 45, v := [], sh := nums_Put_j0_sh, g := fun K x => nums_Put_j0 (fun y2 => nums_Put_j0_E0 K x.1.1 x.1.2.1 y2) (nums_Put_j0_E1 K x.1.1 x.1.2.1) k x.1.2.2.1 }
def nums_Put_l1_E0 {R : Type} (K : EX → St → Option R) : Bool → List Int → Option R := fun v0 v1 => K (.exit 0) (mkSt 45 [] nums_Put_x1.keep [.own 0 1] [.lst (.int .u8) 5 v0 1 v1])
def nums_Put_l1_S (n_140 : Int) (width_141 : Int) (v_142 : Int) (v_143 : Int) (bN_144 : Bool) (b_145 : List Int) : St := mkSt 45 [] nums_Put_c1.keep [.int .i64 n_140, .int .i64 width_141, .own 0 1, .int .i64 v_142, .int .i64 v_143] [.lst (.int .u8) 5 bN_144 1 b_145]
def nums_Put_l1_sh : Rd (List AV × List HE) := .pair (.cons (.int .i64) (.cons (.int .i64) (.cons (.own 0 1) (.cons (.int .i64) (.cons (.int .i64) Rd.nil))))) (.cons (.lst (.int .u8) 5 1) Rd.nil)
def nums_Put_l1_a {R : Type} (k : Nat) : Alt R := { n := 45, v := [], sh := nums_Put_l1_sh, g := fun K x => nums_Put_l1 (fun y1 => nums_Put_l1_E0 K x.2.1.1 y1) k x.1.1 x.1.2.1 x.1.2.2.2.1 k x.1.2.2.2.2.1 x.2.1.2 }
def nums_Put_O {R : Type} (k : Nat) : CutK R := cutsO [[nums_Put_j0_a k], [nums_Put_l1_a k]]
noncomputable def nums_Put_b : List Ob := obs (bodyOf Try.f11) nums_Put_h
noncomputable def nums_Put_I {R : Type} (k : Nat) : InlT R := inone
theorem nums_Put_j0_eq {R : Type} (k : Nat) (K : EX → St → Option R) (n_131 : Int) (width_132 : Int) (v_133 : Bool) : nums_Put_j0 (fun y2 => nums_Put_j0_E0 K n_131 width_132 y2) (nums_Put_j0_E1 K n_131 width_132) k v_133 = ev tab (nums_Put_F k) (inlK tab (nums_Put_F k) (nums_Put_I k) 0) (nums_Put_O k) (obB nums_Put_b 0) (obH nums_Put_b 0) (nums_Put_j0_S n_131 width_132 v_133) (fun e st => optb (clean nums_Put_x0 st) fun st => K e st) := by kernel_rfl
theorem nums_Put_j0_ok {R : Type} (k : Nat)  : ObOK (R := R) tab (nums_Put_F k) (inlK tab (nums_Put_F k) (nums_Put_I k) 0) (nums_Put_O k) (.join nums_Put_c0 nums_Put_x0 0 (obB nums_Put_b 0) (obH nums_Put_b 0)) :=
  join_ok (l := [nums_Put_j0_a k]) (by kernel_rfl) ⟨(fun K x => (nums_Put_j0_eq k K x.1.1 x.1.2.1 x.1.2.2.1).trans (by kernel_rfl)), trivial⟩
theorem nums_Put_l1_eq {R : Type} (k : Nat) (K : EX → St → Option R) (n_140 : Int) (width_141 : Int) (v_142 : Int) (bN_144 : Bool) : ∀ (j : Nat) (v_143 : Int) (b_145 : List Int), nums_Put_l1 (fun y1 => nums_Put_l1_E0 K bN_144 y1) k n_140 width_141 v_142 j v_143 b_145 = iter nums_Put_c1 nums_Put_x1 (ev tab (nums_Put_F k) (inlK tab (nums_Put_F k) (nums_Put_I k) 0) (nums_Put_O k) (obB nums_Put_b 1) (obH nums_Put_b 1)) j (nums_Put_l1_S n_140 width_141 v_142 v_143 bN_144 b_145) K
  | 0, _, _ => rfl
  | j + 1, v_143, b_145 => by
    have e : nums_Put_l1 (fun y1 => nums_Put_l1_E0 K bN_144 y1) k n_140 width_141 v_142 j = fun v_143 b_145 => iter nums_Put_c1 nums_Put_x1 (ev tab (nums_Put_F k) (inlK tab (nums_Put_F k) (nums_Put_I k) 0) (nums_Put_O k) (obB nums_Put_b 1) (obH nums_Put_b 1)) j (nums_Put_l1_S n_140 width_141 v_142 v_143 bN_144 b_145) K := by funext v_143 b_145; exact nums_Put_l1_eq k K n_140 width_141 v_142 bN_144 j v_143 b_145
    show nums_Put_l1s (nums_Put_l1 (fun y1 => nums_Put_l1_E0 K bN_144 y1) k n_140 width_141 v_142 j) (fun y1 => nums_Put_l1_E0 K bN_144 y1) k n_140 width_141 v_142 v_143 b_145 = _
    rw [e, iter_succ]; kernel_rfl
theorem nums_Put_l1_ok {R : Type} (k : Nat)  : ObOK (R := R) tab (nums_Put_F k) (inlK tab (nums_Put_F k) (nums_Put_I k) 0) (nums_Put_O k) (.loop nums_Put_c1 nums_Put_x1 1 (obB nums_Put_b 1) (obH nums_Put_b 1)) :=
  loop_ok (l := [nums_Put_l1_a k]) (by kernel_rfl) ⟨(fun K x => ⟨k, (nums_Put_l1_eq k K x.1.1 x.1.2.1 x.1.2.2.2.1 x.2.1.1 k x.1.2.2.2.2.1 x.2.1.2).trans (by kernel_rfl)⟩), trivial⟩
theorem nums_Put_cuts {R : Type} (k : Nat) : ∀ c, Try.f11.body = some c → CutsOK (R := R) tab (nums_Put_F k) (inlK tab (nums_Put_F k) (nums_Put_I k) 0) (nums_Put_O k) c nums_Put_h :=
  cuts_of (l := [.join nums_Put_c0 nums_Put_x0 0 (obB nums_Put_b 0) (obH nums_Put_b 0), .loop nums_Put_c1 nums_Put_x1 1 (obB nums_Put_b 1) (obH nums_Put_b 1)]) (by kernel_rfl) ⟨nums_Put_j0_ok k, nums_Put_l1_ok k, trivial⟩
theorem nums_Put_iok {R : Type} (k : Nat) : IOK Try.prog tab (nums_Put_F k) (nums_Put_I (R := R) k) := iok_none
theorem nums_Put_ev (k : Nat) (x : (nums_Put_p k).τ.den) : evalF tab (nums_Put_F k) (nums_Put_p k) (nums_Put_I k) 0 (nums_Put_O k) nums_Put_h Try.f11 x = (nums_Put_p k).f x := by kernel_rfl
theorem nums_Put_ok (k : Nat) : PFOK Try.prog tab 11 (nums_Put_p k) := pfok mixed tabOK (nums_Put_fok k) Try.func11 (I := nums_Put_I k) (d := 0) (nums_Put_iok k) (Q := nums_Put_O k) (hi := nums_Put_h) (nums_Put_cuts k) (nums_Put_ev k)
end Go.Proofs.Ytncdfikcdchimaa.Ev
