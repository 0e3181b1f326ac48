/- record_Scan, told on plain data. Written by program. -/
import Derived.Test.YtibdnfknokkadaaDoorErecord_Decode
set_option linter.unusedVariables false
set_option maxRecDepth 1000000
namespace Go.Proofs.YtibdnfknokkadaaDoor.Ev
open Go Go.RowKit Go.Proofs
noncomputable def record_Scan_l0s {R : Type} (rc : Int → List (Int × (Int × (Int × (Int × (Int × (Int × ByteArray)))))) → Option R) (e0 : Int → List (Int × (Int × (Int × (Int × (Int × (Int × ByteArray)))))) → Option R) (k : Nat) (s_0 : ByteArray) (all_1 : Int) (out_2 : List (Int × (Int × (Int × (Int × (Int × (Int × ByteArray))))))) : Option R :=
  bif (((decide ((0 : Int) ≤ (wrap64 (all_1 * (64 : Int))))) && (decide ((wrap64 (all_1 * (64 : Int))) ≤ (sizeI s_0)))) && (decide ((sizeI s_0) ≤ (sizeI s_0)))) then
    optb (record_Decode k (s_0.extract (wrap64 (all_1 * (64 : Int))).toNat (sizeI s_0).toNat)) fun r_3 =>
    bif (!(decide (r_3.2.2 = (0 : Int)))) then
      e0 all_1 out_2
    else bif (decide (out_2.length + ([(r_3.1.1, (r_3.1.2.1, (r_3.1.2.2.1, (r_3.1.2.2.2.1, (r_3.1.2.2.2.2.1, (r_3.1.2.2.2.2.2.1, r_3.1.2.2.2.2.2.2))))))] : List (Int × (Int × (Int × (Int × (Int × (Int × ByteArray))))))).length ≤ 1099511627776)) then
      rc (wrap64 (all_1 + r_3.2.1)) (out_2 ++ ([(r_3.1.1, (r_3.1.2.1, (r_3.1.2.2.1, (r_3.1.2.2.2.1, (r_3.1.2.2.2.2.1, (r_3.1.2.2.2.2.2.1, r_3.1.2.2.2.2.2.2))))))] : List (Int × (Int × (Int × (Int × (Int × (Int × ByteArray))))))))
    else none
  else none
noncomputable def record_Scan_l0 {R : Type} (e0 : Int → List (Int × (Int × (Int × (Int × (Int × (Int × ByteArray)))))) → Option R) (k : Nat) (s_0 : ByteArray) : Nat → Int → List (Int × (Int × (Int × (Int × (Int × (Int × ByteArray)))))) → Option R
  | 0 => fun _ _ => none
  | j + 1 => record_Scan_l0s (record_Scan_l0 e0 k s_0 j) e0 k s_0
noncomputable def record_Scan (k : Nat) (s_4 : ByteArray) : Option ((Bool × List (Int × (Int × (Int × (Int × (Int × (Int × ByteArray))))))) × Int) :=
  record_Scan_l0 (fun v_5 v_6 =>
    some ((true, v_6), v_5)) k s_4 k (0 : Int) ([] : List (Int × (Int × (Int × (Int × (Int × (Int × ByteArray)))))))
noncomputable def record_Scan_p (k : Nat) : PF := { ps := [(false, 1)], rs := [(false, 1), (false, 1)], τ := .str, σ := (.pair (.sl (.pair (.int .i64) (.pair (.int .i64) (.pair (.int .i64) (.pair (.int .i64) (.pair (.int .i64) (.pair (.int .i64) .str))))))) (.int .i64)), f := fun x => record_Scan k x, fr := [some 33, none] }
noncomputable def record_Scan_F (k : Nat) : PT := fcons 19 (record_Decode_p k) <| fnone
theorem record_Scan_fok (k : Nat) : FOK Tryd.prog tab (record_Scan_F k) := fok_cons (record_Decode_ok k) Tryd.call19 <| fok_none
noncomputable def record_Scan_c0 : Cl := { keep := [0, 4, 5], hl := 1, ad := [(4, (.pair (.int .i64) (.pair (.int .i64) (.pair (.int .i64) (.pair (.int .i64) (.pair (.int .i64) (.pair (.int .i64) .str)))))), 33)], adc := [], bump := [] }
noncomputable def record_Scan_x0 : Cl := { keep := [2, 3], hl := 1, ad := [], adc := [], bump := [] }
noncomputable def record_Scan_h : Hint := (.sq .no (.sq .no (.sq .no (.lp record_Scan_c0 record_Scan_x0 0 .no))))
noncomputable def record_Scan_l0_E0 {R : Type} (K : EX → St → Option R) : Int → Bool → List (Int × (Int × (Int × (Int × (Int × (Int × ByteArray)))))) → Option R := fun v0 v1 v2 => K .ret (mkSt 29 [] record_Scan_x0.keep [.own 0 1, .int .i64 v0] [.lst (.pair (.int .i64) (.pair (.int .i64) (.pair (.int .i64) (.pair (.int .i64) (.pair (.int .i64) (.pair (.int .i64) .str)))))) 33 v1 1 v2])
noncomputable def record_Scan_l0_S (s_0 : ByteArray) (all_1 : Int) (outN_7 : Bool) (out_2 : List (Int × (Int × (Int × (Int × (Int × (Int × ByteArray))))))) : St := mkSt 29 [] record_Scan_c0.keep [.str s_0, .own 0 1, .int .i64 all_1] [.lst (.pair (.int .i64) (.pair (.int .i64) (.pair (.int .i64) (.pair (.int .i64) (.pair (.int .i64) (.pair (.int .i64) .str)))))) 33 outN_7 1 out_2]
noncomputable def record_Scan_l0_sh : Rd (List AV × List HE) := .pair (.cons .str (.cons (.own 0 1) (.cons (.int .i64) Rd.nil))) (.cons (.lst (.pair (.int .i64) (.pair (.int .i64) (.pair (.int .i64) (.pair (.int .i64) (.pair (.int .i64) (.pair (.int .i64) .str)))))) 33 1) Rd.nil)
noncomputable def record_Scan_l0_a {R : Type} (k : Nat) : Alt R := { n := 29, v := [], sh := record_Scan_l0_sh, g := fun K x => record_Scan_l0 (fun y0 y2 => record_Scan_l0_E0 K y0 x.2.1.1 y2) k x.1.1 k x.1.2.2.1 x.2.1.2 }
noncomputable def record_Scan_O {R : Type} (k : Nat) : CutK R := cutsO [[record_Scan_l0_a k]]
noncomputable def record_Scan_b : List Ob := obs (bodyOf Tryd.f10) record_Scan_h
noncomputable def record_Scan_I {R : Type} (k : Nat) : InlT R := inone
theorem record_Scan_l0_eq {R : Type} (k : Nat) (K : EX → St → Option R) (s_0 : ByteArray) (outN_7 : Bool) : ∀ (j : Nat) (all_1 : Int) (out_2 : List (Int × (Int × (Int × (Int × (Int × (Int × ByteArray))))))), record_Scan_l0 (fun y0 y2 => record_Scan_l0_E0 K y0 outN_7 y2) k s_0 j all_1 out_2 = iter record_Scan_c0 record_Scan_x0 (ev tab (record_Scan_F k) (inlK tab (record_Scan_F k) (record_Scan_I k) 0) (record_Scan_O k) (obB record_Scan_b 0) (obH record_Scan_b 0)) j (record_Scan_l0_S s_0 all_1 outN_7 out_2) K
  | 0, _, _ => rfl
  | j + 1, all_1, out_2 => by
    have e : record_Scan_l0 (fun y0 y2 => record_Scan_l0_E0 K y0 outN_7 y2) k s_0 j = fun all_1 out_2 => iter record_Scan_c0 record_Scan_x0 (ev tab (record_Scan_F k) (inlK tab (record_Scan_F k) (record_Scan_I k) 0) (record_Scan_O k) (obB record_Scan_b 0) (obH record_Scan_b 0)) j (record_Scan_l0_S s_0 all_1 outN_7 out_2) K := by funext all_1 out_2; exact record_Scan_l0_eq k K s_0 outN_7 j all_1 out_2
    show record_Scan_l0s (record_Scan_l0 (fun y0 y2 => record_Scan_l0_E0 K y0 outN_7 y2) k s_0 j) (fun y0 y2 => record_Scan_l0_E0 K y0 outN_7 y2) k s_0 all_1 out_2 = _
    rw [e, iter_succ]; kernel_rfl
theorem record_Scan_l0_ok {R : Type} (k : Nat)  : ObOK (R := R) tab (record_Scan_F k) (inlK tab (record_Scan_F k) (record_Scan_I k) 0) (record_Scan_O k) (.loop record_Scan_c0 record_Scan_x0 0 (obB record_Scan_b 0) (obH record_Scan_b 0)) :=
  loop_ok (l := [record_Scan_l0_a k]) (by kernel_rfl) ⟨(fun K x => ⟨k, (record_Scan_l0_eq k K x.1.1 x.2.1.1 k x.1.2.2.1 x.2.1.2).trans (by kernel_rfl)⟩), trivial⟩
theorem record_Scan_cuts {R : Type} (k : Nat) : ∀ c, Tryd.f10.body = some c → CutsOK (R := R) tab (record_Scan_F k) (inlK tab (record_Scan_F k) (record_Scan_I k) 0) (record_Scan_O k) c record_Scan_h :=
  cuts_of (l := [.loop record_Scan_c0 record_Scan_x0 0 (obB record_Scan_b 0) (obH record_Scan_b 0)]) (by kernel_rfl) ⟨record_Scan_l0_ok k, trivial⟩
theorem record_Scan_iok {R : Type} (k : Nat) : IOK Tryd.prog tab (record_Scan_F k) (record_Scan_I (R := R) k) := iok_none
theorem record_Scan_ev (k : Nat) (x : (record_Scan_p k).τ.den) : evalF tab (record_Scan_F k) (record_Scan_p k) (record_Scan_I k) 0 (record_Scan_O k) record_Scan_h Tryd.f10 x = (record_Scan_p k).f x := by kernel_rfl
theorem record_Scan_ok (k : Nat) : PFOK Tryd.prog tab 10 (record_Scan_p k) := pfok mixed tabOK (record_Scan_fok k) Tryd.func10 (I := record_Scan_I k) (d := 0) (record_Scan_iok k) (Q := record_Scan_O k) (hi := record_Scan_h) (record_Scan_cuts k) (record_Scan_ev k)
end Go.Proofs.YtibdnfknokkadaaDoor.Ev
