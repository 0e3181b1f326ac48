/- nums_Get, told on plain data. Written by program. -/
import Derived.Test.YtibdnfknokkadaaDoorEtab
set_option linter.unusedVariables false
set_option maxRecDepth 1000000
namespace Go.Proofs.YtibdnfknokkadaaDoor.Ev
open Go Go.RowKit Go.Proofs
noncomputable def nums_Get_j0 {R : Type} (e0 : Int → Bool → Option R) (e1 : Option R) (k : Nat) (v_0 : Bool) : Option R :=
  bif v_0 then
    e0 (0 : Int) false
  else e1
noncomputable def nums_Get_l1s {R : Type} (rc : Int → Int → Option R) (e0 : Int → Option R) (k : Nat) (s_1 : ByteArray) (v_2 : Int) (n_3 : Int) (v_4 : Int) : Option R :=
  bif (decide (v_4 < v_2)) then
    bif ((decide ((0 : Int) ≤ v_4)) && (decide (v_4 < (sizeI s_1)))) then
      rc (bitop .or .i64 (shlv .i64 n_3 (8 : Int)) (wrap64 (bt s_1 v_4))) (wrap64 (v_4 + (1 : Int)))
    else none
  else e0 n_3
noncomputable def nums_Get_l1 {R : Type} (e0 : Int → Option R) (k : Nat) (s_1 : ByteArray) (v_2 : Int) : Nat → Int → Int → Option R
  | 0 => fun _ _ => none
  | j + 1 => nums_Get_l1s (nums_Get_l1 e0 k s_1 v_2 j) e0 k s_1 v_2
noncomputable def nums_Get_k0 (k : Nat) : Int → Bool → Option (Int × Bool) := fun v_5 v_6 =>
  some (v_5, v_6)
noncomputable def nums_Get_k1 (k : Nat) (s_7 : ByteArray) : Option (Int × Bool) := 
  nums_Get_l1 (fun n_8 =>
    some (n_8, true)) k s_7 (sizeI s_7) k (0 : Int) (0 : Int)
noncomputable def nums_Get (k : Nat) (s_7 : ByteArray) : Option (Int × Bool) :=
  bif (decide ((sizeI s_7) < (1 : Int))) then
    nums_Get_j0 (nums_Get_k0 k) (nums_Get_k1 k s_7) k true
  else nums_Get_j0 (nums_Get_k0 k) (nums_Get_k1 k s_7) k (decide ((7 : Int) < (sizeI s_7)))
noncomputable def nums_Get_p (k : Nat) : PF := { ps := [(false, 1)], rs := [(false, 1), (false, 1)], τ := .str, σ := (.pair (.int .i64) .bool), f := fun x => nums_Get k x }
noncomputable def nums_Get_F (k : Nat) : PT := fnone
theorem nums_Get_fok (k : Nat) : FOK Tryd.prog tab (nums_Get_F k) := fok_none
noncomputable def nums_Get_c0 : Cl := { keep := [0, 13], hl := 0, ad := [], adc := [], bump := [] }
noncomputable def nums_Get_x0 : Cl := { keep := [0, 2, 3], hl := 0, ad := [], adc := [], bump := [] }
noncomputable def nums_Get_c1 : Cl := { keep := [0, 4, 15, 16], hl := 0, ad := [], adc := [], bump := [] }
noncomputable def nums_Get_x1 : Cl := { keep := [4], hl := 0, ad := [], adc := [], bump := [] }
noncomputable def nums_Get_h : Hint := (.sq .no (.sq (.ct nums_Get_c0 nums_Get_x0 0 .no .no) (.sq .no (.sq (.sq .no (.lp nums_Get_c1 nums_Get_x1 1 .no)) .no))))
noncomputable def nums_Get_j0_E0 {R : Type} (K : EX → St → Option R) : ByteArray → Int → Bool → Option R := fun v0 v1 v2 => K .ret (mkSt 28 [] nums_Get_x0.keep [.str v0, .int .i64 v1, .bool v2] [])
noncomputable def nums_Get_j0_E1 {R : Type} (K : EX → St → Option R) : ByteArray → Option R := fun v0 => K .normal (mkSt 28 [] nums_Get_x0.keep [.str v0, .junk, .junk] [])
noncomputable def nums_Get_j0_S (s_9 : ByteArray) (v_0 : Bool) : St := mkSt 28 [] nums_Get_c0.keep [.str s_9, .bool v_0] []
noncomputable def nums_Get_j0_sh : Rd (List AV × List HE) := .pair (.cons .str (.cons .bool Rd.nil)) Rd.nil
noncomputable def nums_Get_j0_a {R : Type} (k : Nat) : Alt R := { n := 28, v := [], sh := nums_Get_j0_sh, g := fun K x => nums_Get_j0 (fun y1 y2 => nums_Get_j0_E0 K x.1.1 y1 y2) (nums_Get_j0_E1 K x.1.1) k x.1.2.1 }
noncomputable def nums_Get_l1_E0 {R : Type} (K : EX → St → Option R) : Int → Option R := fun v0 => K (.exit 0) (mkSt 28 [] nums_Get_x1.keep [.int .i64 v0] [])
noncomputable def nums_Get_l1_S (s_1 : ByteArray) (n_3 : Int) (v_2 : Int) (v_4 : Int) : St := mkSt 28 [] nums_Get_c1.keep [.str s_1, .int .i64 n_3, .int .i64 v_2, .int .i64 v_4] []
noncomputable def nums_Get_l1_sh : Rd (List AV × List HE) := .pair (.cons .str (.cons (.int .i64) (.cons (.int .i64) (.cons (.int .i64) Rd.nil)))) Rd.nil
noncomputable def nums_Get_l1_a {R : Type} (k : Nat) : Alt R := { n := 28, v := [], sh := nums_Get_l1_sh, g := fun K x => nums_Get_l1 (nums_Get_l1_E0 K) k x.1.1 x.1.2.2.1 k x.1.2.1 x.1.2.2.2.1 }
noncomputable def nums_Get_O {R : Type} (k : Nat) : CutK R := cutsO [[nums_Get_j0_a k], [nums_Get_l1_a k]]
noncomputable def nums_Get_b : List Ob := obs (bodyOf Tryd.f40) nums_Get_h
noncomputable def nums_Get_I {R : Type} (k : Nat) : InlT R := inone
theorem nums_Get_j0_eq {R : Type} (k : Nat) (K : EX → St → Option R) (s_9 : ByteArray) (v_0 : Bool) : nums_Get_j0 (fun y1 y2 => nums_Get_j0_E0 K s_9 y1 y2) (nums_Get_j0_E1 K s_9) k v_0 = ev tab (nums_Get_F k) (inlK tab (nums_Get_F k) (nums_Get_I k) 0) (nums_Get_O k) (obB nums_Get_b 0) (obH nums_Get_b 0) (nums_Get_j0_S s_9 v_0) (fun e st => optb (clean nums_Get_x0 st) fun st => K e st) := by kernel_rfl
theorem nums_Get_j0_ok {R : Type} (k : Nat)  : ObOK (R := R) tab (nums_Get_F k) (inlK tab (nums_Get_F k) (nums_Get_I k) 0) (nums_Get_O k) (.join nums_Get_c0 nums_Get_x0 0 (obB nums_Get_b 0) (obH nums_Get_b 0)) :=
  join_ok (l := [nums_Get_j0_a k]) (by kernel_rfl) ⟨(fun K x => (nums_Get_j0_eq k K x.1.1 x.1.2.1).trans (by kernel_rfl)), trivial⟩
theorem nums_Get_l1_eq {R : Type} (k : Nat) (K : EX → St → Option R) (s_1 : ByteArray) (v_2 : Int) : ∀ (j : Nat) (n_3 : Int) (v_4 : Int), nums_Get_l1 (nums_Get_l1_E0 K) k s_1 v_2 j n_3 v_4 = iter nums_Get_c1 nums_Get_x1 (ev tab (nums_Get_F k) (inlK tab (nums_Get_F k) (nums_Get_I k) 0) (nums_Get_O k) (obB nums_Get_b 1) (obH nums_Get_b 1)) j (nums_Get_l1_S s_1 n_3 v_2 v_4) K
  | 0, _, _ => rfl
  | j + 1, n_3, v_4 => by
    have e : nums_Get_l1 (nums_Get_l1_E0 K) k s_1 v_2 j = fun n_3 v_4 => iter nums_Get_c1 nums_Get_x1 (ev tab (nums_Get_F k) (inlK tab (nums_Get_F k) (nums_Get_I k) 0) (nums_Get_O k) (obB nums_Get_b 1) (obH nums_Get_b 1)) j (nums_Get_l1_S s_1 n_3 v_2 v_4) K := by funext n_3 v_4; exact nums_Get_l1_eq k K s_1 v_2 j n_3 v_4
    show nums_Get_l1s (nums_Get_l1 (nums_Get_l1_E0 K) k s_1 v_2 j) (nums_Get_l1_E0 K) k s_1 v_2 n_3 v_4 = _
    rw [e, iter_succ]; kernel_rfl
theorem nums_Get_l1_ok {R : Type} (k : Nat)  : ObOK (R := R) tab (nums_Get_F k) (inlK tab (nums_Get_F k) (nums_Get_I k) 0) (nums_Get_O k) (.loop nums_Get_c1 nums_Get_x1 1 (obB nums_Get_b 1) (obH nums_Get_b 1)) :=
  loop_ok (l := [nums_Get_l1_a k]) (by kernel_rfl) ⟨(fun K x => ⟨k, (nums_Get_l1_eq k K x.1.1 x.1.2.2.1 k x.1.2.1 x.1.2.2.2.1).trans (by kernel_rfl)⟩), trivial⟩
theorem nums_Get_cuts {R : Type} (k : Nat) : ∀ c, Tryd.f40.body = some c → CutsOK (R := R) tab (nums_Get_F k) (inlK tab (nums_Get_F k) (nums_Get_I k) 0) (nums_Get_O k) c nums_Get_h :=
  cuts_of (l := [.join nums_Get_c0 nums_Get_x0 0 (obB nums_Get_b 0) (obH nums_Get_b 0), .loop nums_Get_c1 nums_Get_x1 1 (obB nums_Get_b 1) (obH nums_Get_b 1)]) (by kernel_rfl) ⟨nums_Get_j0_ok k, nums_Get_l1_ok k, trivial⟩
theorem nums_Get_iok {R : Type} (k : Nat) : IOK Tryd.prog tab (nums_Get_F k) (nums_Get_I (R := R) k) := iok_none
theorem nums_Get_ev (k : Nat) (x : (nums_Get_p k).τ.den) : evalF tab (nums_Get_F k) (nums_Get_p k) (nums_Get_I k) 0 (nums_Get_O k) nums_Get_h Tryd.f40 x = (nums_Get_p k).f x := by kernel_rfl
theorem nums_Get_ok (k : Nat) : PFOK Tryd.prog tab 40 (nums_Get_p k) := pfok mixed tabOK (nums_Get_fok k) Tryd.func40 (I := nums_Get_I k) (d := 0) (nums_Get_iok k) (Q := nums_Get_O k) (hi := nums_Get_h) (nums_Get_cuts k) (nums_Get_ev k)
end Go.Proofs.YtibdnfknokkadaaDoor.Ev
