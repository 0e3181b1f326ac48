/- Several texts of this claim in one. Written by program. -/
import Derived.Test.YtibdnfknokkadaaDoorEtab
import Derived.Shelf.Strings.Repeat
import Derived.Test.YtibdnfknokkadaaDoorProg
/- record_Blocks, told on plain data. Written by program. -/
set_option linter.unusedVariables false
set_option maxRecDepth 1000000
namespace Go.Proofs.YtibdnfknokkadaaDoor.Ev
open Go Go.RowKit Go.Proofs
noncomputable def record_Blocks_j0 {R : Type} (e0 : Int → Option R) (e1 : Option R) (k : Nat) (kind_29 : Int) (v_30 : Bool) : Option R :=
  bif v_30 then
    e0 (0 : Int)
  else bif (decide (kind_29 = (4 : Int))) then
    e0 (2 : Int)
  else e1
noncomputable def record_Blocks_k0 (k : Nat) : Int → Option Int := fun v_31 =>
  some v_31
noncomputable def record_Blocks_k1 (k : Nat) : Option Int := 
  some (1 : Int)
noncomputable def record_Blocks (k : Nat) (kind_28 : Int) : Option Int :=
  bif (decide (kind_28 < (1 : Int))) then
    record_Blocks_j0 (record_Blocks_k0 k) (record_Blocks_k1 k) k kind_28 true
  else record_Blocks_j0 (record_Blocks_k0 k) (record_Blocks_k1 k) k kind_28 (decide ((6 : Int) < kind_28))
noncomputable def record_Blocks_p (k : Nat) : PF := { ps := [(false, 1)], rs := [(false, 1)], τ := (.int .i64), σ := (.int .i64), f := fun x => record_Blocks k x }
noncomputable def record_Blocks_F (k : Nat) : PT := fnone
theorem record_Blocks_fok (k : Nat) : FOK Tryd.prog tab (record_Blocks_F k) := fok_none
noncomputable def record_Blocks_c0 : Cl := { keep := [0, 3], hl := 0, ad := [], adc := [], bump := [] }
noncomputable def record_Blocks_x0 : Cl := { keep := [2], hl := 0, ad := [], adc := [], bump := [] }
noncomputable def record_Blocks_h : Hint := (.sq .no (.sq (.ct record_Blocks_c0 record_Blocks_x0 0 .no .no) .no))
noncomputable def record_Blocks_j0_E0 {R : Type} (K : EX → St → Option R) : Int → Option R := fun v0 => K .ret (mkSt 13 [] record_Blocks_x0.keep [.int .i64 v0] [])
noncomputable def record_Blocks_j0_E1 {R : Type} (K : EX → St → Option R) : Option R := K .normal (mkSt 13 [] record_Blocks_x0.keep [.junk] [])
noncomputable def record_Blocks_j0_S (kind_29 : Int) (v_30 : Bool) : St := mkSt 13 [] record_Blocks_c0.keep [.int .i64 kind_29, .bool v_30] []
noncomputable def record_Blocks_j0_sh : Rd (List AV × List HE) := .pair (.cons (.int .i64) (.cons .bool Rd.nil)) Rd.nil
noncomputable def record_Blocks_j0_a {R : Type} (k : Nat) : Alt R := { n := 13, v := [], sh := record_Blocks_j0_sh, g := fun K x => record_Blocks_j0 (record_Blocks_j0_E0 K) (record_Blocks_j0_E1 K) k x.1.1 x.1.2.1 }
noncomputable def record_Blocks_O {R : Type} (k : Nat) : CutK R := cutsO [[record_Blocks_j0_a k]]
noncomputable def record_Blocks_b : List Ob := obs (bodyOf Tryd.f12) record_Blocks_h
noncomputable def record_Blocks_I {R : Type} (k : Nat) : InlT R := inone
theorem record_Blocks_j0_eq {R : Type} (k : Nat) (K : EX → St → Option R) (kind_29 : Int) (v_30 : Bool) : record_Blocks_j0 (record_Blocks_j0_E0 K) (record_Blocks_j0_E1 K) k kind_29 v_30 = ev tab (record_Blocks_F k) (inlK tab (record_Blocks_F k) (record_Blocks_I k) 0) (record_Blocks_O k) (obB record_Blocks_b 0) (obH record_Blocks_b 0) (record_Blocks_j0_S kind_29 v_30) (fun e st => optb (clean record_Blocks_x0 st) fun st => K e st) := by kernel_rfl
theorem record_Blocks_j0_ok {R : Type} (k : Nat)  : ObOK (R := R) tab (record_Blocks_F k) (inlK tab (record_Blocks_F k) (record_Blocks_I k) 0) (record_Blocks_O k) (.join record_Blocks_c0 record_Blocks_x0 0 (obB record_Blocks_b 0) (obH record_Blocks_b 0)) :=
  join_ok (l := [record_Blocks_j0_a k]) (by kernel_rfl) ⟨(fun K x => (record_Blocks_j0_eq k K x.1.1 x.1.2.1).trans (by kernel_rfl)), trivial⟩
theorem record_Blocks_cuts {R : Type} (k : Nat) : ∀ c, Tryd.f12.body = some c → CutsOK (R := R) tab (record_Blocks_F k) (inlK tab (record_Blocks_F k) (record_Blocks_I k) 0) (record_Blocks_O k) c record_Blocks_h :=
  cuts_of (l := [.join record_Blocks_c0 record_Blocks_x0 0 (obB record_Blocks_b 0) (obH record_Blocks_b 0)]) (by kernel_rfl) ⟨record_Blocks_j0_ok k, trivial⟩
theorem record_Blocks_iok {R : Type} (k : Nat) : IOK Tryd.prog tab (record_Blocks_F k) (record_Blocks_I (R := R) k) := iok_none
theorem record_Blocks_ev (k : Nat) (x : (record_Blocks_p k).τ.den) : evalF tab (record_Blocks_F k) (record_Blocks_p k) (record_Blocks_I k) 0 (record_Blocks_O k) record_Blocks_h Tryd.f12 x = (record_Blocks_p k).f x := by kernel_rfl
theorem record_Blocks_ok (k : Nat) : PFOK Tryd.prog tab 12 (record_Blocks_p k) := pfok mixed tabOK (record_Blocks_fok k) Tryd.func12 (I := record_Blocks_I k) (d := 0) (record_Blocks_iok k) (Q := record_Blocks_O k) (hi := record_Blocks_h) (record_Blocks_cuts k) (record_Blocks_ev k)
end Go.Proofs.YtibdnfknokkadaaDoor.Ev

/- nums_Put, told on plain data. Written by program. -/
set_option linter.unusedVariables false
set_option maxRecDepth 1000000
namespace Go.Proofs.YtibdnfknokkadaaDoor.Ev
open Go Go.RowKit Go.Proofs
noncomputable def nums_Put_j0 {R : Type} (e0 : ByteArray → Option R) (e1 : Option R) (k : Nat) (v_72 : Bool) : Option R :=
  bif v_72 then
    e0 (⟨#[]⟩ : ByteArray)
  else e1
noncomputable def nums_Put_l1s {R : Type} (rc : Int → List Int → Option R) (e0 : List Int → Option R) (k : Nat) (n_79 : Int) (width_80 : Int) (v_81 : Int) (v_82 : Int) (b_84 : List Int) : Option R :=
  bif (decide (v_82 < v_81)) then
    let z_88 := (wrap64 ((wrap64 (width_80 - (1 : Int))) - v_82))
    bif (decide ((wrap64 ((8 : Int) * z_88)) < (0 : Int))) then
      none
    else bif ((decide ((0 : Int) ≤ v_82)) && (decide (v_82 < (lenI b_84)))) then
      optb (b_84[v_82.toNat]?) fun x_90 =>
      rc (wrap64 (v_82 + (1 : Int))) (List.set b_84 v_82.toNat (IntKind.u8.wrap (shrv .i64 n_79 (wrap64 ((8 : Int) * z_88)))))
    else none
  else e0 b_84
noncomputable def nums_Put_l1 {R : Type} (e0 : List Int → Option R) (k : Nat) (n_79 : Int) (width_80 : Int) (v_81 : Int) : Nat → Int → List Int → Option R
  | 0 => fun _ _ => none
  | j + 1 => nums_Put_l1s (nums_Put_l1 e0 k n_79 width_80 v_81 j) e0 k n_79 width_80 v_81
noncomputable def nums_Put_k0 (k : Nat) : ByteArray → Option ByteArray := fun v_75 =>
  some v_75
noncomputable def nums_Put_k1 (k : Nat) (n_34 : Int) (width_35 : Int) : Option ByteArray := 
  bif (((decide ((0 : Int) ≤ width_35)) && (decide (width_35 ≤ width_35))) && (decide (width_35 ≤ (1099511627776 : Int)))) then
    let z_78 := (List.replicate width_35.toNat (Ty.zero (.int .u8)))
    nums_Put_l1 (fun b_92 =>
      some (bytesOf b_92)) k n_34 width_35 (lenI z_78) k (0 : Int) z_78
  else none
noncomputable def nums_Put (k : Nat) (n_34 : Int) (width_35 : Int) : Option ByteArray :=
  bif (decide (width_35 < (1 : Int))) then
    nums_Put_j0 (nums_Put_k0 k) (nums_Put_k1 k n_34 width_35) k true
  else bif (decide ((7 : Int) < width_35)) then
    nums_Put_j0 (nums_Put_k0 k) (nums_Put_k1 k n_34 width_35) k true
  else bif (decide (n_34 < (0 : Int))) then
    nums_Put_j0 (nums_Put_k0 k) (nums_Put_k1 k n_34 width_35) k true
  else bif (decide ((wrap64 ((8 : Int) * width_35)) < (0 : Int))) then
    none
  else nums_Put_j0 (nums_Put_k0 k) (nums_Put_k1 k n_34 width_35) k (!(decide ((shrv .i64 n_34 (wrap64 ((8 : Int) * width_35))) = (0 : Int))))
noncomputable def nums_Put_p (k : Nat) : PF := { ps := [(false, 1), (false, 1)], rs := [(false, 1)], τ := (.pair (.int .i64) (.int .i64)), σ := .str, f := fun x => nums_Put k x.1 x.2 }
noncomputable def nums_Put_F (k : Nat) : PT := fnone
theorem nums_Put_fok (k : Nat) : FOK Tryd.prog tab (nums_Put_F k) := fok_none
noncomputable def nums_Put_c0 : Cl := { keep := [0, 1, 23], hl := 0, ad := [], adc := [], bump := [] }
noncomputable def nums_Put_x0 : Cl := { keep := [0, 1, 4], hl := 0, ad := [], adc := [], bump := [] }
noncomputable def nums_Put_c1 : Cl := { keep := [0, 1, 5, 27, 28], hl := 1, ad := [], adc := [], bump := [] }
noncomputable def nums_Put_x1 : Cl := { keep := [5], hl := 1, ad := [], adc := [], bump := [] }
noncomputable def nums_Put_h : Hint := (.sq .no (.sq (.ct nums_Put_c0 nums_Put_x0 0 .no .no) (.sq .no (.sq (.sq .no (.lp nums_Put_c1 nums_Put_x1 1 .no)) .no))))
noncomputable def nums_Put_j0_E0 {R : Type} (K : EX → St → Option R) : Int → Int → ByteArray → Option R := fun v0 v1 v2 => K .ret (mkSt 45 [] nums_Put_x0.keep [.int .i64 v0, .int .i64 v1, .str v2] [])
noncomputable def nums_Put_j0_E1 {R : Type} (K : EX → St → Option R) : Int → Int → Option R := fun v0 v1 => K .normal (mkSt 45 [] nums_Put_x0.keep [.int .i64 v0, .int .i64 v1, .junk] [])
noncomputable def nums_Put_j0_S (n_70 : Int) (width_71 : Int) (v_72 : Bool) : St := mkSt 45 [] nums_Put_c0.keep [.int .i64 n_70, .int .i64 width_71, .bool v_72] []
noncomputable def nums_Put_j0_sh : Rd (List AV × List HE) := .pair (.cons (.int .i64) (.cons (.int .i64) (.cons .bool Rd.nil))) Rd.nil
noncomputable def nums_Put_j0_a {R : Type} (k : Nat) : Alt R := { n := 45, v := [], sh := nums_Put_j0_sh, g := fun K x => nums_Put_j0 (fun y2 => nums_Put_j0_E0 K x.1.1 x.1.2.1 y2) (nums_Put_j0_E1 K x.1.1 x.1.2.1) k x.1.2.2.1 }
noncomputable def nums_Put_l1_E0 {R : Type} (K : EX → St → Option R) : Bool → List Int → Option R := fun v0 v1 => K (.exit 0) (mkSt 45 [] nums_Put_x1.keep [.own 0 1] [.lst (.int .u8) 5 v0 1 v1])
noncomputable def nums_Put_l1_S (n_79 : Int) (width_80 : Int) (v_81 : Int) (v_82 : Int) (bN_83 : Bool) (b_84 : List Int) : St := mkSt 45 [] nums_Put_c1.keep [.int .i64 n_79, .int .i64 width_80, .own 0 1, .int .i64 v_81, .int .i64 v_82] [.lst (.int .u8) 5 bN_83 1 b_84]
noncomputable def nums_Put_l1_sh : Rd (List AV × List HE) := .pair (.cons (.int .i64) (.cons (.int .i64) (.cons (.own 0 1) (.cons (.int .i64) (.cons (.int .i64) Rd.nil))))) (.cons (.lst (.int .u8) 5 1) Rd.nil)
noncomputable def nums_Put_l1_a {R : Type} (k : Nat) : Alt R := { n := 45, v := [], sh := nums_Put_l1_sh, g := fun K x => nums_Put_l1 (fun y1 => nums_Put_l1_E0 K x.2.1.1 y1) k x.1.1 x.1.2.1 x.1.2.2.2.1 k x.1.2.2.2.2.1 x.2.1.2 }
noncomputable def nums_Put_O {R : Type} (k : Nat) : CutK R := cutsO [[nums_Put_j0_a k], [nums_Put_l1_a k]]
noncomputable def nums_Put_b : List Ob := obs (bodyOf Tryd.f15) nums_Put_h
noncomputable def nums_Put_I {R : Type} (k : Nat) : InlT R := inone
theorem nums_Put_j0_eq {R : Type} (k : Nat) (K : EX → St → Option R) (n_70 : Int) (width_71 : Int) (v_72 : Bool) : nums_Put_j0 (fun y2 => nums_Put_j0_E0 K n_70 width_71 y2) (nums_Put_j0_E1 K n_70 width_71) k v_72 = ev tab (nums_Put_F k) (inlK tab (nums_Put_F k) (nums_Put_I k) 0) (nums_Put_O k) (obB nums_Put_b 0) (obH nums_Put_b 0) (nums_Put_j0_S n_70 width_71 v_72) (fun e st => optb (clean nums_Put_x0 st) fun st => K e st) := by kernel_rfl
theorem nums_Put_j0_ok {R : Type} (k : Nat)  : ObOK (R := R) tab (nums_Put_F k) (inlK tab (nums_Put_F k) (nums_Put_I k) 0) (nums_Put_O k) (.join nums_Put_c0 nums_Put_x0 0 (obB nums_Put_b 0) (obH nums_Put_b 0)) :=
  join_ok (l := [nums_Put_j0_a k]) (by kernel_rfl) ⟨(fun K x => (nums_Put_j0_eq k K x.1.1 x.1.2.1 x.1.2.2.1).trans (by kernel_rfl)), trivial⟩
theorem nums_Put_l1_eq {R : Type} (k : Nat) (K : EX → St → Option R) (n_79 : Int) (width_80 : Int) (v_81 : Int) (bN_83 : Bool) : ∀ (j : Nat) (v_82 : Int) (b_84 : List Int), nums_Put_l1 (fun y1 => nums_Put_l1_E0 K bN_83 y1) k n_79 width_80 v_81 j v_82 b_84 = iter nums_Put_c1 nums_Put_x1 (ev tab (nums_Put_F k) (inlK tab (nums_Put_F k) (nums_Put_I k) 0) (nums_Put_O k) (obB nums_Put_b 1) (obH nums_Put_b 1)) j (nums_Put_l1_S n_79 width_80 v_81 v_82 bN_83 b_84) K
  | 0, _, _ => rfl
  | j + 1, v_82, b_84 => by
    have e : nums_Put_l1 (fun y1 => nums_Put_l1_E0 K bN_83 y1) k n_79 width_80 v_81 j = fun v_82 b_84 => iter nums_Put_c1 nums_Put_x1 (ev tab (nums_Put_F k) (inlK tab (nums_Put_F k) (nums_Put_I k) 0) (nums_Put_O k) (obB nums_Put_b 1) (obH nums_Put_b 1)) j (nums_Put_l1_S n_79 width_80 v_81 v_82 bN_83 b_84) K := by funext v_82 b_84; exact nums_Put_l1_eq k K n_79 width_80 v_81 bN_83 j v_82 b_84
    show nums_Put_l1s (nums_Put_l1 (fun y1 => nums_Put_l1_E0 K bN_83 y1) k n_79 width_80 v_81 j) (fun y1 => nums_Put_l1_E0 K bN_83 y1) k n_79 width_80 v_81 v_82 b_84 = _
    rw [e, iter_succ]; kernel_rfl
theorem nums_Put_l1_ok {R : Type} (k : Nat)  : ObOK (R := R) tab (nums_Put_F k) (inlK tab (nums_Put_F k) (nums_Put_I k) 0) (nums_Put_O k) (.loop nums_Put_c1 nums_Put_x1 1 (obB nums_Put_b 1) (obH nums_Put_b 1)) :=
  loop_ok (l := [nums_Put_l1_a k]) (by kernel_rfl) ⟨(fun K x => ⟨k, (nums_Put_l1_eq k K x.1.1 x.1.2.1 x.1.2.2.2.1 x.2.1.1 k x.1.2.2.2.2.1 x.2.1.2).trans (by kernel_rfl)⟩), trivial⟩
theorem nums_Put_cuts {R : Type} (k : Nat) : ∀ c, Tryd.f15.body = some c → CutsOK (R := R) tab (nums_Put_F k) (inlK tab (nums_Put_F k) (nums_Put_I k) 0) (nums_Put_O k) c nums_Put_h :=
  cuts_of (l := [.join nums_Put_c0 nums_Put_x0 0 (obB nums_Put_b 0) (obH nums_Put_b 0), .loop nums_Put_c1 nums_Put_x1 1 (obB nums_Put_b 1) (obH nums_Put_b 1)]) (by kernel_rfl) ⟨nums_Put_j0_ok k, nums_Put_l1_ok k, trivial⟩
theorem nums_Put_iok {R : Type} (k : Nat) : IOK Tryd.prog tab (nums_Put_F k) (nums_Put_I (R := R) k) := iok_none
theorem nums_Put_ev (k : Nat) (x : (nums_Put_p k).τ.den) : evalF tab (nums_Put_F k) (nums_Put_p k) (nums_Put_I k) 0 (nums_Put_O k) nums_Put_h Tryd.f15 x = (nums_Put_p k).f x := by kernel_rfl
theorem nums_Put_ok (k : Nat) : PFOK Tryd.prog tab 15 (nums_Put_p k) := pfok mixed tabOK (nums_Put_fok k) Tryd.func15 (I := nums_Put_I k) (d := 0) (nums_Put_iok k) (Q := nums_Put_O k) (hi := nums_Put_h) (nums_Put_cuts k) (nums_Put_ev k)
end Go.Proofs.YtibdnfknokkadaaDoor.Ev

/- crc_step, told on plain data. Written by program. -/
set_option linter.unusedVariables false
set_option maxRecDepth 1000000
namespace Go.Proofs.YtibdnfknokkadaaDoor.Ev
open Go Go.RowKit Go.Proofs
noncomputable def crc_step_j1 {R : Type} (e0 : Int → Option R) (k : Nat) (v_143 : Int) : Option R :=
  e0 (wrap64 (v_143 + (1 : Int)))
noncomputable def crc_step_k0 {R : Type} (rc : Int → Int → Option R) (e0 : Int → Option R) (k : Nat) : Int → Int → Option R := fun c_144 v_145 =>
  rc c_144 v_145
noncomputable def crc_step_l0s {R : Type} (rc : Int → Int → Option R) (e0 : Int → Option R) (k : Nat) (c_123 : Int) (v_124 : Int) : Option R :=
  bif (decide (v_124 < (2 : Int))) then
    bif (decide ((bitop .and .u32 c_123 (15 : Int)) = (0 : Int))) then
      crc_step_j1 (fun v_145 => crc_step_k0 rc e0 k (bitop .xor .u32 (shrv .u32 c_123 (4 : Int)) (0 : Int)) v_145) k v_124
    else bif (decide ((bitop .and .u32 c_123 (15 : Int)) = (1 : Int))) then
      crc_step_j1 (fun v_145 => crc_step_k0 rc e0 k (bitop .xor .u32 (shrv .u32 c_123 (4 : Int)) (274646895 : Int)) v_145) k v_124
    else bif (decide ((bitop .and .u32 c_123 (15 : Int)) = (2 : Int))) then
      crc_step_j1 (fun v_145 => crc_step_k0 rc e0 k (bitop .xor .u32 (shrv .u32 c_123 (4 : Int)) (549293790 : Int)) v_145) k v_124
    else bif (decide ((bitop .and .u32 c_123 (15 : Int)) = (3 : Int))) then
      crc_step_j1 (fun v_145 => crc_step_k0 rc e0 k (bitop .xor .u32 (shrv .u32 c_123 (4 : Int)) (820201905 : Int)) v_145) k v_124
    else bif (decide ((bitop .and .u32 c_123 (15 : Int)) = (4 : Int))) then
      crc_step_j1 (fun v_145 => crc_step_k0 rc e0 k (bitop .xor .u32 (shrv .u32 c_123 (4 : Int)) (1098587580 : Int)) v_145) k v_124
    else bif (decide ((bitop .and .u32 c_123 (15 : Int)) = (5 : Int))) then
      crc_step_j1 (fun v_145 => crc_step_k0 rc e0 k (bitop .xor .u32 (shrv .u32 c_123 (4 : Int)) (1361435347 : Int)) v_145) k v_124
    else bif (decide ((bitop .and .u32 c_123 (15 : Int)) = (6 : Int))) then
      crc_step_j1 (fun v_145 => crc_step_k0 rc e0 k (bitop .xor .u32 (shrv .u32 c_123 (4 : Int)) (1640403810 : Int)) v_145) k v_124
    else bif (decide ((bitop .and .u32 c_123 (15 : Int)) = (7 : Int))) then
      crc_step_j1 (fun v_145 => crc_step_k0 rc e0 k (bitop .xor .u32 (shrv .u32 c_123 (4 : Int)) (1905808397 : Int)) v_145) k v_124
    else bif (decide ((bitop .and .u32 c_123 (15 : Int)) = (8 : Int))) then
      crc_step_j1 (fun v_145 => crc_step_k0 rc e0 k (bitop .xor .u32 (shrv .u32 c_123 (4 : Int)) (2197175160 : Int)) v_145) k v_124
    else bif (decide ((bitop .and .u32 c_123 (15 : Int)) = (9 : Int))) then
      crc_step_j1 (fun v_145 => crc_step_k0 rc e0 k (bitop .xor .u32 (shrv .u32 c_123 (4 : Int)) (2460548119 : Int)) v_145) k v_124
    else bif (decide ((bitop .and .u32 c_123 (15 : Int)) = (10 : Int))) then
      crc_step_j1 (fun v_145 => crc_step_k0 rc e0 k (bitop .xor .u32 (shrv .u32 c_123 (4 : Int)) (2722870694 : Int)) v_145) k v_124
    else bif (decide ((bitop .and .u32 c_123 (15 : Int)) = (11 : Int))) then
      crc_step_j1 (fun v_145 => crc_step_k0 rc e0 k (bitop .xor .u32 (shrv .u32 c_123 (4 : Int)) (2987750089 : Int)) v_145) k v_124
    else bif (decide ((bitop .and .u32 c_123 (15 : Int)) = (12 : Int))) then
      crc_step_j1 (fun v_145 => crc_step_k0 rc e0 k (bitop .xor .u32 (shrv .u32 c_123 (4 : Int)) (3280807620 : Int)) v_145) k v_124
    else bif (decide ((bitop .and .u32 c_123 (15 : Int)) = (13 : Int))) then
      crc_step_j1 (fun v_145 => crc_step_k0 rc e0 k (bitop .xor .u32 (shrv .u32 c_123 (4 : Int)) (3553878443 : Int)) v_145) k v_124
    else bif (decide ((bitop .and .u32 c_123 (15 : Int)) = (14 : Int))) then
      crc_step_j1 (fun v_145 => crc_step_k0 rc e0 k (bitop .xor .u32 (shrv .u32 c_123 (4 : Int)) (3811616794 : Int)) v_145) k v_124
    else bif (decide ((bitop .and .u32 c_123 (15 : Int)) = (15 : Int))) then
      crc_step_j1 (fun v_145 => crc_step_k0 rc e0 k (bitop .xor .u32 (shrv .u32 c_123 (4 : Int)) (4084100981 : Int)) v_145) k v_124
    else none
  else e0 c_123
noncomputable def crc_step_l0 {R : Type} (e0 : Int → Option R) (k : Nat) : Nat → Int → Int → Option R
  | 0 => fun _ _ => none
  | j + 1 => crc_step_l0s (crc_step_l0 e0 k j) e0 k
noncomputable def crc_step (k : Nat) (c_122 : Int) : Option Int :=
  crc_step_l0 (fun c_161 =>
    some c_161) k k c_122 (0 : Int)
noncomputable def crc_step_p (k : Nat) : PF := { ps := [(false, 1)], rs := [(false, 1)], τ := (.int .u32), σ := (.int .u32), f := fun x => crc_step k x }
noncomputable def crc_step_F (k : Nat) : PT := fnone
theorem crc_step_fok (k : Nat) : FOK Tryd.prog tab (crc_step_F k) := fok_none
noncomputable def crc_step_c0 : Cl := { keep := [0, 3], hl := 0, ad := [], adc := [], bump := [] }
noncomputable def crc_step_x0 : Cl := { keep := [0], hl := 0, ad := [], adc := [], bump := [] }
noncomputable def crc_step_c1 : Cl := { keep := [0, 3], hl := 0, ad := [], adc := [], bump := [] }
noncomputable def crc_step_x1 : Cl := { keep := [0, 3], hl := 0, ad := [], adc := [], bump := [] }
noncomputable def crc_step_h : Hint := (.sq .no (.sq (.sq .no (.lp crc_step_c0 crc_step_x0 0 (.sq .no (.sq .no (.ct crc_step_c1 crc_step_x1 1 .no .no))))) .no))
noncomputable def crc_step_l0_E0 {R : Type} (K : EX → St → Option R) : Int → Option R := fun v0 => K (.exit 0) (mkSt 14 [] crc_step_x0.keep [.int .u32 v0] [])
noncomputable def crc_step_l0_S (c_123 : Int) (v_124 : Int) : St := mkSt 14 [] crc_step_c0.keep [.int .u32 c_123, .int .i64 v_124] []
noncomputable def crc_step_l0_sh : Rd (List AV × List HE) := .pair (.cons (.int .u32) (.cons (.int .i64) Rd.nil)) Rd.nil
noncomputable def crc_step_l0_a {R : Type} (k : Nat) : Alt R := { n := 14, v := [], sh := crc_step_l0_sh, g := fun K x => crc_step_l0 (crc_step_l0_E0 K) k k x.1.1 x.1.2.1 }
noncomputable def crc_step_j1_E0 {R : Type} (K : EX → St → Option R) : Int → Int → Option R := fun v0 v1 => K .normal (mkSt 14 [] crc_step_x1.keep [.int .u32 v0, .int .i64 v1] [])
noncomputable def crc_step_j1_S (c_142 : Int) (v_143 : Int) : St := mkSt 14 [] crc_step_c1.keep [.int .u32 c_142, .int .i64 v_143] []
noncomputable def crc_step_j1_sh : Rd (List AV × List HE) := .pair (.cons (.int .u32) (.cons (.int .i64) Rd.nil)) Rd.nil
noncomputable def crc_step_j1_a {R : Type} (k : Nat) : Alt R := { n := 14, v := [], sh := crc_step_j1_sh, g := fun K x => crc_step_j1 (fun y1 => crc_step_j1_E0 K x.1.1 y1) k x.1.2.1 }
noncomputable def crc_step_O {R : Type} (k : Nat) : CutK R := cutsO [[crc_step_l0_a k], [crc_step_j1_a k]]
noncomputable def crc_step_b : List Ob := obs (bodyOf Tryd.f30) crc_step_h
noncomputable def crc_step_I {R : Type} (k : Nat) : InlT R := inone
theorem crc_step_l0_eq {R : Type} (k : Nat) (K : EX → St → Option R) : ∀ (j : Nat) (c_123 : Int) (v_124 : Int), crc_step_l0 (crc_step_l0_E0 K) k j c_123 v_124 = iter crc_step_c0 crc_step_x0 (ev tab (crc_step_F k) (inlK tab (crc_step_F k) (crc_step_I k) 0) (crc_step_O k) (obB crc_step_b 0) (obH crc_step_b 0)) j (crc_step_l0_S c_123 v_124) K
  | 0, _, _ => rfl
  | j + 1, c_123, v_124 => by
    have e : crc_step_l0 (crc_step_l0_E0 K) k j = fun c_123 v_124 => iter crc_step_c0 crc_step_x0 (ev tab (crc_step_F k) (inlK tab (crc_step_F k) (crc_step_I k) 0) (crc_step_O k) (obB crc_step_b 0) (obH crc_step_b 0)) j (crc_step_l0_S c_123 v_124) K := by funext c_123 v_124; exact crc_step_l0_eq k K j c_123 v_124
    show crc_step_l0s (crc_step_l0 (crc_step_l0_E0 K) k j) (crc_step_l0_E0 K) k c_123 v_124 = _
    rw [e, iter_succ]; kernel_rfl
theorem crc_step_l0_ok {R : Type} (k : Nat)  : ObOK (R := R) tab (crc_step_F k) (inlK tab (crc_step_F k) (crc_step_I k) 0) (crc_step_O k) (.loop crc_step_c0 crc_step_x0 0 (obB crc_step_b 0) (obH crc_step_b 0)) :=
  loop_ok (l := [crc_step_l0_a k]) (by kernel_rfl) ⟨(fun K x => ⟨k, (crc_step_l0_eq k K k x.1.1 x.1.2.1).trans (by kernel_rfl)⟩), trivial⟩
theorem crc_step_j1_eq {R : Type} (k : Nat) (K : EX → St → Option R) (c_142 : Int) (v_143 : Int) : crc_step_j1 (fun y1 => crc_step_j1_E0 K c_142 y1) k v_143 = ev tab (crc_step_F k) (inlK tab (crc_step_F k) (crc_step_I k) 0) (crc_step_O k) (obB crc_step_b 1) (obH crc_step_b 1) (crc_step_j1_S c_142 v_143) (fun e st => optb (clean crc_step_x1 st) fun st => K e st) := by kernel_rfl
theorem crc_step_j1_ok {R : Type} (k : Nat)  : ObOK (R := R) tab (crc_step_F k) (inlK tab (crc_step_F k) (crc_step_I k) 0) (crc_step_O k) (.join crc_step_c1 crc_step_x1 1 (obB crc_step_b 1) (obH crc_step_b 1)) :=
  join_ok (l := [crc_step_j1_a k]) (by kernel_rfl) ⟨(fun K x => (crc_step_j1_eq k K x.1.1 x.1.2.1).trans (by kernel_rfl)), trivial⟩
theorem crc_step_cuts {R : Type} (k : Nat) : ∀ c, Tryd.f30.body = some c → CutsOK (R := R) tab (crc_step_F k) (inlK tab (crc_step_F k) (crc_step_I k) 0) (crc_step_O k) c crc_step_h :=
  cuts_of (l := [.loop crc_step_c0 crc_step_x0 0 (obB crc_step_b 0) (obH crc_step_b 0), .join crc_step_c1 crc_step_x1 1 (obB crc_step_b 1) (obH crc_step_b 1)]) (by kernel_rfl) ⟨crc_step_l0_ok k, crc_step_j1_ok k, trivial⟩
theorem crc_step_iok {R : Type} (k : Nat) : IOK Tryd.prog tab (crc_step_F k) (crc_step_I (R := R) k) := iok_none
theorem crc_step_ev (k : Nat) (x : (crc_step_p k).τ.den) : evalF tab (crc_step_F k) (crc_step_p k) (crc_step_I k) 0 (crc_step_O k) crc_step_h Tryd.f30 x = (crc_step_p k).f x := by kernel_rfl
theorem crc_step_ok (k : Nat) : PFOK Tryd.prog tab 30 (crc_step_p k) := pfok mixed tabOK (crc_step_fok k) Tryd.func30 (I := crc_step_I k) (d := 0) (crc_step_iok k) (Q := crc_step_O k) (hi := crc_step_h) (crc_step_cuts k) (crc_step_ev k)
end Go.Proofs.YtibdnfknokkadaaDoor.Ev

/- crc_Sum, told on plain data. Written by program. -/
set_option linter.unusedVariables false
set_option maxRecDepth 1000000
namespace Go.Proofs.YtibdnfknokkadaaDoor.Ev
open Go Go.RowKit Go.Proofs
noncomputable def crc_Sum_l1s {R : Type} (rc : Int → Int → Option R) (e0 : Int → Option R) (k : Nat) (s_115 : ByteArray) (v_120 : Int) (c_114 : Int) (v_121 : Int) : Option R :=
  bif (decide (v_121 < v_120)) then
    bif ((decide ((0 : Int) ≤ v_121)) && (decide (v_121 < (sizeI s_115)))) then
      optb (crc_step k (bitop .xor .u32 c_114 (IntKind.u32.wrap (bt s_115 v_121)))) fun r_165 =>
      rc r_165 (wrap64 (v_121 + (1 : Int)))
    else none
  else e0 c_114
noncomputable def crc_Sum_l1 {R : Type} (e0 : Int → Option R) (k : Nat) (s_115 : ByteArray) (v_120 : Int) : Nat → Int → Int → Option R
  | 0 => fun _ _ => none
  | j + 1 => crc_Sum_l1s (crc_Sum_l1 e0 k s_115 v_120 j) e0 k s_115 v_120
noncomputable def crc_Sum_l0s {R : Type} (rc : Int → Int → Option R) (e0 : Int → Option R) (k : Nat) (vb_108 : List ByteArray) (v_109 : Int) (c_106 : Int) (v_110 : Int) : Option R :=
  bif (decide (v_110 < v_109)) then
    bif (decide ((0 : Int) ≤ v_110)) then
      optb (vb_108[v_110.toNat]?) fun x_113 =>
      crc_Sum_l1 (fun c_166 =>
        rc c_166 (wrap64 (v_110 + (1 : Int)))) k x_113 (sizeI x_113) k c_106 (0 : Int)
    else none
  else e0 c_106
noncomputable def crc_Sum_l0 {R : Type} (e0 : Int → Option R) (k : Nat) (vb_108 : List ByteArray) (v_109 : Int) : Nat → Int → Int → Option R
  | 0 => fun _ _ => none
  | j + 1 => crc_Sum_l0s (crc_Sum_l0 e0 k vb_108 v_109 j) e0 k vb_108 v_109
noncomputable def crc_Sum (k : Nat) (partsa_104 : Bool) (partsb_105 : List ByteArray) : Option Int :=
  crc_Sum_l0 (fun c_171 =>
    some (bitop .xor .u32 (4294967295 : Int) c_171)) k partsb_105 (lenI partsb_105) k (4294967295 : Int) (0 : Int)
noncomputable def crc_Sum_p (k : Nat) : PF := { ps := [(false, 1)], rs := [(false, 1)], τ := (.sl .str), σ := (.int .u32), f := fun x => crc_Sum k x.1 x.2 }
noncomputable def crc_Sum_F (k : Nat) : PT := fcons 30 (crc_step_p k) <| fnone
theorem crc_Sum_fok (k : Nat) : FOK Tryd.prog tab (crc_Sum_F k) := fok_cons (crc_step_ok k) Tryd.call30 <| fok_none
noncomputable def crc_Sum_c0 : Cl := { keep := [3, 7, 8, 9], hl := 0, ad := [], adc := [], bump := [] }
noncomputable def crc_Sum_x0 : Cl := { keep := [3], hl := 0, ad := [], adc := [], bump := [] }
noncomputable def crc_Sum_c1 : Cl := { keep := [3, 5, 7, 8, 9, 14, 15], hl := 0, ad := [], adc := [], bump := [] }
noncomputable def crc_Sum_x1 : Cl := { keep := [3, 7, 8, 9], hl := 0, ad := [], adc := [], bump := [] }
noncomputable def crc_Sum_h : Hint := (.sq .no (.sq .no (.sq (.sq .no (.lp crc_Sum_c0 crc_Sum_x0 0 (.sq .no (.sq .no (.sq (.sq .no (.sq .no (.lp crc_Sum_c1 crc_Sum_x1 1 .no))) .no))))) .no)))
noncomputable def crc_Sum_l0_E0 {R : Type} (K : EX → St → Option R) : Int → Option R := fun v0 => K (.exit 0) (mkSt 29 [] crc_Sum_x0.keep [.int .u32 v0] [])
noncomputable def crc_Sum_l0_S (c_106 : Int) (va_107 : Bool) (vb_108 : List ByteArray) (v_109 : Int) (v_110 : Int) : St := mkSt 29 [] crc_Sum_c0.keep [.int .u32 c_106, .sl .str va_107 vb_108, .int .i64 v_109, .int .i64 v_110] []
noncomputable def crc_Sum_l0_sh : Rd (List AV × List HE) := .pair (.cons (.int .u32) (.cons (.sl .str) (.cons (.int .i64) (.cons (.int .i64) Rd.nil)))) Rd.nil
noncomputable def crc_Sum_l0_a {R : Type} (k : Nat) : Alt R := { n := 29, v := [], sh := crc_Sum_l0_sh, g := fun K x => crc_Sum_l0 (crc_Sum_l0_E0 K) k x.1.2.1.2 x.1.2.2.1 k x.1.1 x.1.2.2.2.1 }
noncomputable def crc_Sum_l1_E0 {R : Type} (K : EX → St → Option R) : Int → Bool → List ByteArray → Int → Int → Option R := fun v0 v1 v2 v3 v4 => K (.exit 2) (mkSt 29 [] crc_Sum_x1.keep [.int .u32 v0, .sl .str v1 v2, .int .i64 v3, .int .i64 v4] [])
noncomputable def crc_Sum_l1_S (c_114 : Int) (s_115 : ByteArray) (va_116 : Bool) (vb_117 : List ByteArray) (v_118 : Int) (v_119 : Int) (v_120 : Int) (v_121 : Int) : St := mkSt 29 [] crc_Sum_c1.keep [.int .u32 c_114, .str s_115, .sl .str va_116 vb_117, .int .i64 v_118, .int .i64 v_119, .int .i64 v_120, .int .i64 v_121] []
noncomputable def crc_Sum_l1_sh : Rd (List AV × List HE) := .pair (.cons (.int .u32) (.cons .str (.cons (.sl .str) (.cons (.int .i64) (.cons (.int .i64) (.cons (.int .i64) (.cons (.int .i64) Rd.nil))))))) Rd.nil
noncomputable def crc_Sum_l1_a {R : Type} (k : Nat) : Alt R := { n := 29, v := [], sh := crc_Sum_l1_sh, g := fun K x => crc_Sum_l1 (fun y0 => crc_Sum_l1_E0 K y0 x.1.2.2.1.1 x.1.2.2.1.2 x.1.2.2.2.1 x.1.2.2.2.2.1) k x.1.2.1 x.1.2.2.2.2.2.1 k x.1.1 x.1.2.2.2.2.2.2.1 }
noncomputable def crc_Sum_O {R : Type} (k : Nat) : CutK R := cutsO [[crc_Sum_l0_a k], [crc_Sum_l1_a k]]
noncomputable def crc_Sum_b : List Ob := obs (bodyOf Tryd.f16) crc_Sum_h
noncomputable def crc_Sum_I {R : Type} (k : Nat) : InlT R := inone
theorem crc_Sum_l0_eq {R : Type} (k : Nat) (K : EX → St → Option R) (va_107 : Bool) (vb_108 : List ByteArray) (v_109 : Int) : ∀ (j : Nat) (c_106 : Int) (v_110 : Int), crc_Sum_l0 (crc_Sum_l0_E0 K) k vb_108 v_109 j c_106 v_110 = iter crc_Sum_c0 crc_Sum_x0 (ev tab (crc_Sum_F k) (inlK tab (crc_Sum_F k) (crc_Sum_I k) 0) (crc_Sum_O k) (obB crc_Sum_b 0) (obH crc_Sum_b 0)) j (crc_Sum_l0_S c_106 va_107 vb_108 v_109 v_110) K
  | 0, _, _ => rfl
  | j + 1, c_106, v_110 => by
    have e : crc_Sum_l0 (crc_Sum_l0_E0 K) k vb_108 v_109 j = fun c_106 v_110 => iter crc_Sum_c0 crc_Sum_x0 (ev tab (crc_Sum_F k) (inlK tab (crc_Sum_F k) (crc_Sum_I k) 0) (crc_Sum_O k) (obB crc_Sum_b 0) (obH crc_Sum_b 0)) j (crc_Sum_l0_S c_106 va_107 vb_108 v_109 v_110) K := by funext c_106 v_110; exact crc_Sum_l0_eq k K va_107 vb_108 v_109 j c_106 v_110
    show crc_Sum_l0s (crc_Sum_l0 (crc_Sum_l0_E0 K) k vb_108 v_109 j) (crc_Sum_l0_E0 K) k vb_108 v_109 c_106 v_110 = _
    rw [e, iter_succ]; kernel_rfl
theorem crc_Sum_l0_ok {R : Type} (k : Nat)  : ObOK (R := R) tab (crc_Sum_F k) (inlK tab (crc_Sum_F k) (crc_Sum_I k) 0) (crc_Sum_O k) (.loop crc_Sum_c0 crc_Sum_x0 0 (obB crc_Sum_b 0) (obH crc_Sum_b 0)) :=
  loop_ok (l := [crc_Sum_l0_a k]) (by kernel_rfl) ⟨(fun K x => ⟨k, (crc_Sum_l0_eq k K x.1.2.1.1 x.1.2.1.2 x.1.2.2.1 k x.1.1 x.1.2.2.2.1).trans (by kernel_rfl)⟩), trivial⟩
theorem crc_Sum_l1_eq {R : Type} (k : Nat) (K : EX → St → Option R) (s_115 : ByteArray) (va_116 : Bool) (vb_117 : List ByteArray) (v_118 : Int) (v_119 : Int) (v_120 : Int) : ∀ (j : Nat) (c_114 : Int) (v_121 : Int), crc_Sum_l1 (fun y0 => crc_Sum_l1_E0 K y0 va_116 vb_117 v_118 v_119) k s_115 v_120 j c_114 v_121 = iter crc_Sum_c1 crc_Sum_x1 (ev tab (crc_Sum_F k) (inlK tab (crc_Sum_F k) (crc_Sum_I k) 0) (crc_Sum_O k) (obB crc_Sum_b 1) (obH crc_Sum_b 1)) j (crc_Sum_l1_S c_114 s_115 va_116 vb_117 v_118 v_119 v_120 v_121) K
  | 0, _, _ => rfl
  | j + 1, c_114, v_121 => by
    have e : crc_Sum_l1 (fun y0 => crc_Sum_l1_E0 K y0 va_116 vb_117 v_118 v_119) k s_115 v_120 j = fun c_114 v_121 => iter crc_Sum_c1 crc_Sum_x1 (ev tab (crc_Sum_F k) (inlK tab (crc_Sum_F k) (crc_Sum_I k) 0) (crc_Sum_O k) (obB crc_Sum_b 1) (obH crc_Sum_b 1)) j (crc_Sum_l1_S c_114 s_115 va_116 vb_117 v_118 v_119 v_120 v_121) K := by funext c_114 v_121; exact crc_Sum_l1_eq k K s_115 va_116 vb_117 v_118 v_119 v_120 j c_114 v_121
    show crc_Sum_l1s (crc_Sum_l1 (fun y0 => crc_Sum_l1_E0 K y0 va_116 vb_117 v_118 v_119) k s_115 v_120 j) (fun y0 => crc_Sum_l1_E0 K y0 va_116 vb_117 v_118 v_119) k s_115 v_120 c_114 v_121 = _
    rw [e, iter_succ]; kernel_rfl
theorem crc_Sum_l1_ok {R : Type} (k : Nat)  : ObOK (R := R) tab (crc_Sum_F k) (inlK tab (crc_Sum_F k) (crc_Sum_I k) 0) (crc_Sum_O k) (.loop crc_Sum_c1 crc_Sum_x1 1 (obB crc_Sum_b 1) (obH crc_Sum_b 1)) :=
  loop_ok (l := [crc_Sum_l1_a k]) (by kernel_rfl) ⟨(fun K x => ⟨k, (crc_Sum_l1_eq k K x.1.2.1 x.1.2.2.1.1 x.1.2.2.1.2 x.1.2.2.2.1 x.1.2.2.2.2.1 x.1.2.2.2.2.2.1 k x.1.1 x.1.2.2.2.2.2.2.1).trans (by kernel_rfl)⟩), trivial⟩
theorem crc_Sum_cuts {R : Type} (k : Nat) : ∀ c, Tryd.f16.body = some c → CutsOK (R := R) tab (crc_Sum_F k) (inlK tab (crc_Sum_F k) (crc_Sum_I k) 0) (crc_Sum_O k) c crc_Sum_h :=
  cuts_of (l := [.loop crc_Sum_c0 crc_Sum_x0 0 (obB crc_Sum_b 0) (obH crc_Sum_b 0), .loop crc_Sum_c1 crc_Sum_x1 1 (obB crc_Sum_b 1) (obH crc_Sum_b 1)]) (by kernel_rfl) ⟨crc_Sum_l0_ok k, crc_Sum_l1_ok k, trivial⟩
theorem crc_Sum_iok {R : Type} (k : Nat) : IOK Tryd.prog tab (crc_Sum_F k) (crc_Sum_I (R := R) k) := iok_none
theorem crc_Sum_ev (k : Nat) (x : (crc_Sum_p k).τ.den) : evalF tab (crc_Sum_F k) (crc_Sum_p k) (crc_Sum_I k) 0 (crc_Sum_O k) crc_Sum_h Tryd.f16 x = (crc_Sum_p k).f x := by kernel_rfl
theorem crc_Sum_ok (k : Nat) : PFOK Tryd.prog tab 16 (crc_Sum_p k) := pfok mixed tabOK (crc_Sum_fok k) Tryd.func16 (I := crc_Sum_I k) (d := 0) (crc_Sum_iok k) (Q := crc_Sum_O k) (hi := crc_Sum_h) (crc_Sum_cuts k) (crc_Sum_ev k)
end Go.Proofs.YtibdnfknokkadaaDoor.Ev

/- strings.Repeat, laid off the shelf at this program. -/
namespace Go.Proofs
open Go.Shelf
def Tryd.lays105_ren : Go.Shelf.Ren := ⟨fun | 105 => 31 | 212 => 45 | 99 => 46 | 165 => 47 | 166 => 48 | 170 => 49 | 169 => 50 | 263 => 60 | 264 => 61 | 206 => 62 | 240 => 63 | 241 => 64 | 276 => 77 | 277 => 78 | n => n, fun | 9 => 9 | 3 => 3 | 4 => 4 | 20 => 20 | 0 => 0 | 46 => 88 | 109 => 90 | 5 => 5 | 72 => 95 | 76 => 99 | 51 => 61 | 146 => 108 | 53 => 110 | 148 => 111 | 70 => 93 | 37 => 52 | 75 => 98 | 127 => 113 | 164 => 127 | 80 => 102 | n => n, fun | n => n⟩
theorem Tryd.lays105 : Go.Proofs.Lays.n105 Tryd.prog Tryd.lays105_ren := {
  mixed := by kernel_rfl
  f99 := Tryd.func46.trans (congrArg some (by kernel_rfl))
  f105 := Tryd.func31.trans (congrArg some (by kernel_rfl))
  f165 := Tryd.func47.trans (congrArg some (by kernel_rfl))
  f166 := Tryd.func48.trans (congrArg some (by kernel_rfl))
  f169 := Tryd.func50.trans (congrArg some (by kernel_rfl))
  f170 := Tryd.func49.trans (congrArg some (by kernel_rfl))
  f206 := Tryd.func62.trans (congrArg some (by kernel_rfl))
  f212 := Tryd.func45.trans (congrArg some (by kernel_rfl))
  f240 := Tryd.func63.trans (congrArg some (by kernel_rfl))
  f241 := Tryd.func64.trans (congrArg some (by kernel_rfl))
  f263 := Tryd.func60.trans (congrArg some (by kernel_rfl))
  f264 := Tryd.func61.trans (congrArg some (by kernel_rfl))
  f276 := Tryd.func77.trans (congrArg some (by kernel_rfl))
  f277 := Tryd.func78.trans (congrArg some (by kernel_rfl))
  t0 := Tryd.underlying0
  a0 := Tryd.isAgg0
  z0 := Tryd.sizeOf0
  v0 := Tryd.zeroValue0
  t3 := Tryd.underlying3
  a3 := Tryd.isAgg3
  z3 := Tryd.sizeOf3
  v3 := Tryd.zeroValue3
  t4 := Tryd.underlying4
  a4 := Tryd.isAgg4
  z4 := Tryd.sizeOf4
  v4 := Tryd.zeroValue4
  t5 := Tryd.underlying5
  a5 := Tryd.isAgg5
  z5 := Tryd.sizeOf5
  v5 := Tryd.zeroValue5
  t9 := Tryd.underlying9
  a9 := Tryd.isAgg9
  z9 := Tryd.sizeOf9
  v9 := Tryd.zeroValue9
  t20 := Tryd.underlying20
  a20 := Tryd.isAgg20
  z20 := Tryd.sizeOf20
  v20 := Tryd.zeroValue20
  t37 := Tryd.underlying52
  a37 := Tryd.isAgg52
  z37 := Tryd.sizeOf52
  v37 := Tryd.zeroValue52
  t46 := Tryd.underlying88
  a46 := Tryd.isAgg88
  z46 := Tryd.sizeOf88
  v46 := Tryd.zeroValue88
  t51 := Tryd.underlying61
  a51 := Tryd.isAgg61
  z51 := Tryd.sizeOf61
  v51 := Tryd.zeroValue61
  t53 := Tryd.underlying110
  a53 := Tryd.isAgg110
  z53 := Tryd.sizeOf110
  v53 := Tryd.zeroValue110
  t70 := Tryd.underlying93
  a70 := Tryd.isAgg93
  z70 := Tryd.sizeOf93
  v70 := Tryd.zeroValue93
  t72 := Tryd.underlying95
  a72 := Tryd.isAgg95
  z72 := Tryd.sizeOf95
  v72 := Tryd.zeroValue95
  t75 := Tryd.underlying98
  a75 := Tryd.isAgg98
  z75 := Tryd.sizeOf98
  v75 := Tryd.zeroValue98
  t76 := Tryd.underlying99
  a76 := Tryd.isAgg99
  z76 := Tryd.sizeOf99
  v76 := Tryd.zeroValue99
  t109 := Tryd.underlying90
  a109 := Tryd.isAgg90
  z109 := Tryd.sizeOf90
  v109 := Tryd.zeroValue90
  t127 := Tryd.underlying113
  a127 := Tryd.isAgg113
  z127 := Tryd.sizeOf113
  v127 := Tryd.zeroValue113
  t146 := Tryd.underlying108
  a146 := Tryd.isAgg108
  z146 := Tryd.sizeOf108
  v146 := Tryd.zeroValue108
  t148 := Tryd.underlying111
  a148 := Tryd.isAgg111
  z148 := Tryd.sizeOf111
  v148 := Tryd.zeroValue111
  t164 := Tryd.underlying127
  a164 := Tryd.isAgg127
  z164 := Tryd.sizeOf127
  v164 := Tryd.zeroValue127 }
theorem Tryd.builder_extra : Builder.Extra Tryd.prog Tryd.lays105_ren where
  sizeBuilder := by kernel_rfl
  liesBuilder := by kernel_rfl
  t5 := Tryd.underlying5
  a5 := Tryd.isAgg5
  z5 := Tryd.sizeOf5
  v5 := Tryd.zeroValue5
  infoByte := by kernel_rfl
  cellsByte := by kernel_rfl
  sizeByte := by kernel_rfl
  neB5 := by decide
open Go.RowKit Go.Lib in
theorem Tryd.strings_Repeat (s : ByteArray) (c : Nat) (w : World) (hc : c ≤ 9223372036854775807) (hlen : s.size * c ≤ 140737488355328) :
    Calls Tryd.prog 31 #[.string s, .int .i64 c] w fun e w' => e = .returned (.string ⟨(Lib.repeatL s.data.toList c).toArray⟩) ∧ Below w.heap.size w w' := Any.strings_Repeat Tryd.lays105 Tryd.builder_extra s c w hc hlen
end Go.Proofs

/- strings.Repeat on plain data: the shelf's contract, told as the evaluator wants it. -/
set_option linter.unusedVariables false
set_option maxRecDepth 1000000
namespace Go.Proofs.YtibdnfknokkadaaDoor.Ev
open Go Go.RowKit Go.Proofs
def strings_Repeat (k : Nat) (s : ByteArray) (count : Int) : Option ByteArray :=
  bif decide (count < (0 : Int)) then none else bif decide ((9223372036854775807 : Int) < count) then none else bif decide (s.size * count.toNat ≤ 140737488355328) then some (⟨(Lib.repeatL s.data.toList count.toNat).toArray⟩ : ByteArray) else none
def strings_Repeat_p (k : Nat) : PF := { ps := [(false, 1), (false, 1)], rs := [(false, 1)], τ := (.pair .str (.int .i64)), σ := .str, f := fun x => strings_Repeat k x.1 x.2 }
theorem strings_Repeat_ok (k : Nat) : PFOK Tryd.prog tab 31 (strings_Repeat_p k) := by
  intro x y hf O w vs cells hO hgl hrc hsh
  obtain ⟨s, c0⟩ := x
  obtain ⟨c, hc0⟩ : ∃ c : Int, c = c0 := ⟨c0, rfl⟩
  subst hc0
  obtain ⟨c1, c2, hcs, hr1, hr2⟩ : ∃ c1 c2, cells = c1 ++ c2 ∧ RC O w .str s c1 ∧ RC O w (.int .i64) c c2 := hrc
  obtain rfl : c1 = [.string s] := hr1
  obtain rfl : c2 = [.int .i64 c] := hr2
  obtain ⟨v1, ce1, vs1, e1, e2, v2, ce2, vs2, e3, e4, e5, e6⟩ : ∃ v1 ce1 vs1, cells = v1 :: ce1 ∧ vs.toList = v1 :: vs1 ∧ ∃ v2 ce2 vs2, ce1 = v2 :: ce2 ∧ vs1 = v2 :: vs2 ∧ ce2 = [] ∧ vs2 = [] := hsh
  subst e6 e5 e4 e3
  rw [hcs] at e1
  injection e1 with e7 e8
  injection e8 with e9 _
  subst e7 e9
  obtain rfl : vs = #[.string s, .int .i64 c] := by apply Array.toList_inj.1; rw [e2]
  have hf' : strings_Repeat k s c = some y := hf
  unfold strings_Repeat at hf'
  cases h0 : decide (c < (0 : Int)) with
  | true => rw [h0] at hf'; cases hf'
  | false =>
    rw [h0, cond_false] at hf'
    cases h1 : decide ((9223372036854775807 : Int) < c) with
    | true => rw [h1] at hf'; cases hf'
    | false =>
      rw [h1, cond_false] at hf'
      cases h2 : decide (s.size * c.toNat ≤ 140737488355328) with
      | false => rw [h2] at hf'; cases hf'
      | true =>
        rw [h2, cond_true] at hf'
        have hy := Option.some.inj hf'
        have n0 := of_decide_eq_false h0
        have n1 := of_decide_eq_false h1
        have n2 := of_decide_eq_true h2
        obtain ⟨n, rfl⟩ : ∃ n : Nat, c = (n : Int) := Int.eq_ofNat_of_zero_le (by omega)
        refine (Tryd.strings_Repeat s n w (by omega) n2).mono ?_
        rintro e w' ⟨rfl, hb⟩
        refine ⟨[.string y], ?_, ⟨rfl, fun j cc v hc hv => ?_, fun i j e e' v v' k h => by cases h⟩, hb⟩
        · rw [← hy]; rfl
        · cases j with
          | zero =>
            cases hc; cases hv
            exact .str y
          | succ j => cases hc
end Go.Proofs.YtibdnfknokkadaaDoor.Ev

/- xor_Zero, told on plain data. Written by program. -/
set_option linter.unusedVariables false
set_option maxRecDepth 1000000
namespace Go.Proofs.YtibdnfknokkadaaDoor.Ev
open Go Go.RowKit Go.Proofs
noncomputable def xor_Zero_j0 {R : Type} (e0 : ByteArray → Option R) (e1 : Option R) (k : Nat) (v_176 : Bool) : Option R :=
  bif v_176 then
    e0 (⟨#[]⟩ : ByteArray)
  else e1
noncomputable def xor_Zero_k0 (k : Nat) : ByteArray → Option ByteArray := fun v_178 =>
  some v_178
noncomputable def xor_Zero_k1 (k : Nat) (n_174 : Int) : Option ByteArray := 
  optb (strings_Repeat k (⟨#[0]⟩ : ByteArray) n_174) fun r_180 =>
  some r_180
noncomputable def xor_Zero (k : Nat) (n_174 : Int) : Option ByteArray :=
  bif (decide (n_174 < (0 : Int))) then
    xor_Zero_j0 (xor_Zero_k0 k) (xor_Zero_k1 k n_174) k true
  else xor_Zero_j0 (xor_Zero_k0 k) (xor_Zero_k1 k n_174) k (decide ((65536 : Int) < n_174))
noncomputable def xor_Zero_p (k : Nat) : PF := { ps := [(false, 1)], rs := [(false, 1)], τ := (.int .i64), σ := .str, f := fun x => xor_Zero k x }
noncomputable def xor_Zero_F (k : Nat) : PT := fcons 31 (strings_Repeat_p k) <| fnone
theorem xor_Zero_fok (k : Nat) : FOK Tryd.prog tab (xor_Zero_F k) := fok_cons (strings_Repeat_ok k) Tryd.call31 <| fok_none
noncomputable def xor_Zero_c0 : Cl := { keep := [0, 8], hl := 0, ad := [], adc := [], bump := [] }
noncomputable def xor_Zero_x0 : Cl := { keep := [0, 2], hl := 0, ad := [], adc := [], bump := [] }
noncomputable def xor_Zero_h : Hint := (.sq .no (.sq (.ct xor_Zero_c0 xor_Zero_x0 0 .no .no) .no))
noncomputable def xor_Zero_j0_E0 {R : Type} (K : EX → St → Option R) : Int → ByteArray → Option R := fun v0 v1 => K .ret (mkSt 11 [] xor_Zero_x0.keep [.int .i64 v0, .str v1] [])
noncomputable def xor_Zero_j0_E1 {R : Type} (K : EX → St → Option R) : Int → Option R := fun v0 => K .normal (mkSt 11 [] xor_Zero_x0.keep [.int .i64 v0, .junk] [])
noncomputable def xor_Zero_j0_S (n_175 : Int) (v_176 : Bool) : St := mkSt 11 [] xor_Zero_c0.keep [.int .i64 n_175, .bool v_176] []
noncomputable def xor_Zero_j0_sh : Rd (List AV × List HE) := .pair (.cons (.int .i64) (.cons .bool Rd.nil)) Rd.nil
noncomputable def xor_Zero_j0_a {R : Type} (k : Nat) : Alt R := { n := 11, v := [], sh := xor_Zero_j0_sh, g := fun K x => xor_Zero_j0 (fun y1 => xor_Zero_j0_E0 K x.1.1 y1) (xor_Zero_j0_E1 K x.1.1) k x.1.2.1 }
noncomputable def xor_Zero_O {R : Type} (k : Nat) : CutK R := cutsO [[xor_Zero_j0_a k]]
noncomputable def xor_Zero_b : List Ob := obs (bodyOf Tryd.f17) xor_Zero_h
noncomputable def xor_Zero_I {R : Type} (k : Nat) : InlT R := inone
theorem xor_Zero_j0_eq {R : Type} (k : Nat) (K : EX → St → Option R) (n_175 : Int) (v_176 : Bool) : xor_Zero_j0 (fun y1 => xor_Zero_j0_E0 K n_175 y1) (xor_Zero_j0_E1 K n_175) k v_176 = ev tab (xor_Zero_F k) (inlK tab (xor_Zero_F k) (xor_Zero_I k) 0) (xor_Zero_O k) (obB xor_Zero_b 0) (obH xor_Zero_b 0) (xor_Zero_j0_S n_175 v_176) (fun e st => optb (clean xor_Zero_x0 st) fun st => K e st) := by kernel_rfl
theorem xor_Zero_j0_ok {R : Type} (k : Nat)  : ObOK (R := R) tab (xor_Zero_F k) (inlK tab (xor_Zero_F k) (xor_Zero_I k) 0) (xor_Zero_O k) (.join xor_Zero_c0 xor_Zero_x0 0 (obB xor_Zero_b 0) (obH xor_Zero_b 0)) :=
  join_ok (l := [xor_Zero_j0_a k]) (by kernel_rfl) ⟨(fun K x => (xor_Zero_j0_eq k K x.1.1 x.1.2.1).trans (by kernel_rfl)), trivial⟩
theorem xor_Zero_cuts {R : Type} (k : Nat) : ∀ c, Tryd.f17.body = some c → CutsOK (R := R) tab (xor_Zero_F k) (inlK tab (xor_Zero_F k) (xor_Zero_I k) 0) (xor_Zero_O k) c xor_Zero_h :=
  cuts_of (l := [.join xor_Zero_c0 xor_Zero_x0 0 (obB xor_Zero_b 0) (obH xor_Zero_b 0)]) (by kernel_rfl) ⟨xor_Zero_j0_ok k, trivial⟩
theorem xor_Zero_iok {R : Type} (k : Nat) : IOK Tryd.prog tab (xor_Zero_F k) (xor_Zero_I (R := R) k) := iok_none
theorem xor_Zero_ev (k : Nat) (x : (xor_Zero_p k).τ.den) : evalF tab (xor_Zero_F k) (xor_Zero_p k) (xor_Zero_I k) 0 (xor_Zero_O k) xor_Zero_h Tryd.f17 x = (xor_Zero_p k).f x := by kernel_rfl
theorem xor_Zero_ok (k : Nat) : PFOK Tryd.prog tab 17 (xor_Zero_p k) := pfok mixed tabOK (xor_Zero_fok k) Tryd.func17 (I := xor_Zero_I k) (d := 0) (xor_Zero_iok k) (Q := xor_Zero_O k) (hi := xor_Zero_h) (xor_Zero_cuts k) (xor_Zero_ev k)
end Go.Proofs.YtibdnfknokkadaaDoor.Ev

/- record_Encode, told on plain data. Written by program. -/
set_option linter.unusedVariables false
set_option maxRecDepth 1000000
namespace Go.Proofs.YtibdnfknokkadaaDoor.Ev
open Go Go.RowKit Go.Proofs
noncomputable def record_Encode (k : Nat) (ra_21 : Int) (rb_22 : Int) (rc_23 : Int) (rd_24 : Int) (re_25 : Int) (rf_26 : Int) (rg_27 : ByteArray) : Option (ByteArray × Int) :=
  bif (decide (ra_21 < (0 : Int))) then
    some ((⟨#[]⟩ : ByteArray), (1 : Int))
  else bif (decide ((6 : Int) < ra_21)) then
    some ((⟨#[]⟩ : ByteArray), (1 : Int))
  else bif (decide (rb_22 < (0 : Int))) then
    some ((⟨#[]⟩ : ByteArray), (1 : Int))
  else bif (decide ((1099511627776 : Int) < rb_22)) then
    some ((⟨#[]⟩ : ByteArray), (1 : Int))
  else bif (decide (rc_23 < (0 : Int))) then
    some ((⟨#[]⟩ : ByteArray), (1 : Int))
  else bif (decide ((65535 : Int) < rc_23)) then
    some ((⟨#[]⟩ : ByteArray), (1 : Int))
  else bif (decide (rd_24 < (0 : Int))) then
    some ((⟨#[]⟩ : ByteArray), (1 : Int))
  else bif (decide ((65535 : Int) < rd_24)) then
    some ((⟨#[]⟩ : ByteArray), (1 : Int))
  else bif (decide (re_25 < (0 : Int))) then
    some ((⟨#[]⟩ : ByteArray), (1 : Int))
  else bif (decide ((1099511627776 : Int) < re_25)) then
    some ((⟨#[]⟩ : ByteArray), (1 : Int))
  else bif (decide (rf_26 < (0 : Int))) then
    some ((⟨#[]⟩ : ByteArray), (1 : Int))
  else bif (decide ((65535 : Int) < rf_26)) then
    some ((⟨#[]⟩ : ByteArray), (1 : Int))
  else bif (!(decide ((1 : Int) ≤ ra_21))) then
    some ((⟨#[]⟩ : ByteArray), (1 : Int))
  else optb (record_Blocks k ra_21) fun r_94 =>
  bif (!(decide ((sizeI rg_27) = (wrap64 ((wrap64 (r_94 - (1 : Int))) * (64 : Int)))))) then
    some ((⟨#[]⟩ : ByteArray), (1 : Int))
  else eqG (.str (⟨#[67, 66]⟩ : ByteArray)) (.str (⟨#[67, 66]⟩ : ByteArray)) <|
  eqG (.ptr 9 1) (.ptr 9 1) <|
  eqG (.int .i64 (1 : Int)) (.int .i64 (1 : Int)) <|
  optb (nums_Put k ra_21 (1 : Int)) fun r_96 =>
  bif (decide ((⟨#[67, 66]⟩ : ByteArray).size + r_96.size ≤ 4611686018427387904)) then
    eqG (.str ((⟨#[67, 66]⟩ : ByteArray) ++ r_96)) (.str ((⟨#[67, 66]⟩ : ByteArray) ++ r_96)) <|
    eqG (.ptr 10 1) (.ptr 10 1) <|
    eqG (.int .i64 (6 : Int)) (.int .i64 (6 : Int)) <|
    optb (nums_Put k rb_22 (6 : Int)) fun r_97 =>
    bif (decide (((⟨#[67, 66]⟩ : ByteArray) ++ r_96).size + r_97.size ≤ 4611686018427387904)) then
      let z_98 := (((⟨#[67, 66]⟩ : ByteArray) ++ r_96) ++ r_97)
      eqG (.str z_98) (.str z_98) <|
      eqG (.ptr 11 1) (.ptr 11 1) <|
      eqG (.int .i64 (2 : Int)) (.int .i64 (2 : Int)) <|
      optb (nums_Put k rc_23 (2 : Int)) fun r_99 =>
      bif (decide (z_98.size + r_99.size ≤ 4611686018427387904)) then
        eqG (.str (z_98 ++ r_99)) (.str (z_98 ++ r_99)) <|
        eqG (.ptr 12 1) (.ptr 12 1) <|
        eqG (.int .i64 (2 : Int)) (.int .i64 (2 : Int)) <|
        optb (nums_Put k rd_24 (2 : Int)) fun r_100 =>
        bif (decide ((z_98 ++ r_99).size + r_100.size ≤ 4611686018427387904)) then
          eqG (.str ((z_98 ++ r_99) ++ r_100)) (.str ((z_98 ++ r_99) ++ r_100)) <|
          eqG (.ptr 13 1) (.ptr 13 1) <|
          eqG (.int .i64 (6 : Int)) (.int .i64 (6 : Int)) <|
          optb (nums_Put k re_25 (6 : Int)) fun r_101 =>
          bif (decide (((z_98 ++ r_99) ++ r_100).size + r_101.size ≤ 4611686018427387904)) then
            eqG (.str (((z_98 ++ r_99) ++ r_100) ++ r_101)) (.str (((z_98 ++ r_99) ++ r_100) ++ r_101)) <|
            eqG (.ptr 14 1) (.ptr 14 1) <|
            eqG (.int .i64 (2 : Int)) (.int .i64 (2 : Int)) <|
            optb (nums_Put k rf_26 (2 : Int)) fun r_102 =>
            bif (decide ((((z_98 ++ r_99) ++ r_100) ++ r_101).size + r_102.size ≤ 4611686018427387904)) then
              let z_103 := ((((z_98 ++ r_99) ++ r_100) ++ r_101) ++ r_102)
              optb (crc_Sum k false ([z_103, rg_27] : List ByteArray)) fun r_172 =>
              optb (nums_Put k (wrap64 r_172) (4 : Int)) fun r_173 =>
              bif (decide (z_103.size + r_173.size ≤ 4611686018427387904)) then
                optb (xor_Zero k (39 : Int)) fun r_181 =>
                bif (decide ((z_103 ++ r_173).size + r_181.size ≤ 4611686018427387904)) then
                  bif (decide (((z_103 ++ r_173) ++ r_181).size + rg_27.size ≤ 4611686018427387904)) then
                    some ((((z_103 ++ r_173) ++ r_181) ++ rg_27), (0 : Int))
                  else none
                else none
              else none
            else none
          else none
        else none
      else none
    else none
  else none
noncomputable def record_Encode_p (k : Nat) : PF := { ps := [(true, 7)], rs := [(false, 1), (false, 1)], τ := (.pair (.int .i64) (.pair (.int .i64) (.pair (.int .i64) (.pair (.int .i64) (.pair (.int .i64) (.pair (.int .i64) .str)))))), σ := (.pair .str (.int .i64)), f := fun x => record_Encode k x.1 x.2.1 x.2.2.1 x.2.2.2.1 x.2.2.2.2.1 x.2.2.2.2.2.1 x.2.2.2.2.2.2 }
noncomputable def record_Encode_F (k : Nat) : PT := fcons 12 (record_Blocks_p k) <| fcons 15 (nums_Put_p k) <| fcons 16 (crc_Sum_p k) <| fcons 17 (xor_Zero_p k) <| fnone
theorem record_Encode_fok (k : Nat) : FOK Tryd.prog tab (record_Encode_F k) := fok_cons (record_Blocks_ok k) Tryd.call12 <| fok_cons (nums_Put_ok k) Tryd.call15 <| fok_cons (crc_Sum_ok k) Tryd.call16 <| fok_cons (xor_Zero_ok k) Tryd.call17 <| fok_none
noncomputable def record_Encode_h : Hint := (.sq .no (.sq .no (.sq .no (.sq (.sq .no (.un 8 (.sq .no (.sq .no (.sq (.sq .no (.fl 3 9)) .no))))) .no))))
noncomputable def record_Encode_O {R : Type} (k : Nat) : CutK R := cutsO []
noncomputable def record_Encode_i13_1_h : Hint := (.sq .no (.sq (.sq .no (.un 8 .no)) .no))
noncomputable def record_Encode_i13_1_O {R : Type} (k : Nat) : CutK R := cutsO []
noncomputable def record_Encode_i14_1_h : Hint := .no
noncomputable def record_Encode_i14_1_O {R : Type} (k : Nat) : CutK R := cutsO []
noncomputable def record_Encode_i24_3_h : Hint := .no
noncomputable def record_Encode_i24_3_O {R : Type} (k : Nat) : CutK R := cutsO []
noncomputable def record_Encode_i25_4_h : Hint := .no
noncomputable def record_Encode_i25_4_O {R : Type} (k : Nat) : CutK R := cutsO []
noncomputable def record_Encode_i26_5_h : Hint := .no
noncomputable def record_Encode_i26_5_O {R : Type} (k : Nat) : CutK R := cutsO []
noncomputable def record_Encode_i27_6_h : Hint := .no
noncomputable def record_Encode_i27_6_O {R : Type} (k : Nat) : CutK R := cutsO []
noncomputable def record_Encode_i28_7_h : Hint := .no
noncomputable def record_Encode_i28_7_O {R : Type} (k : Nat) : CutK R := cutsO []
noncomputable def record_Encode_i29_8_h : Hint := .no
noncomputable def record_Encode_i29_8_O {R : Type} (k : Nat) : CutK R := cutsO []
noncomputable def record_Encode_i14_8_h : Hint := .no
noncomputable def record_Encode_i14_8_O {R : Type} (k : Nat) : CutK R := cutsO []
noncomputable def record_Encode_i24_10_h : Hint := .no
noncomputable def record_Encode_i24_10_O {R : Type} (k : Nat) : CutK R := cutsO []
noncomputable def record_Encode_i25_11_h : Hint := .no
noncomputable def record_Encode_i25_11_O {R : Type} (k : Nat) : CutK R := cutsO []
noncomputable def record_Encode_i26_12_h : Hint := .no
noncomputable def record_Encode_i26_12_O {R : Type} (k : Nat) : CutK R := cutsO []
noncomputable def record_Encode_i27_13_h : Hint := .no
noncomputable def record_Encode_i27_13_O {R : Type} (k : Nat) : CutK R := cutsO []
noncomputable def record_Encode_i28_14_h : Hint := .no
noncomputable def record_Encode_i28_14_O {R : Type} (k : Nat) : CutK R := cutsO []
noncomputable def record_Encode_i29_15_h : Hint := .no
noncomputable def record_Encode_i29_15_O {R : Type} (k : Nat) : CutK R := cutsO []
noncomputable def record_Encode_I {R : Type} (k : Nat) : InlT R := icons 13 1 (record_Encode_i13_1_h, Tryd.f13, deepO 1 (record_Encode_i13_1_O k)) <| icons 14 1 (record_Encode_i14_1_h, Tryd.f14, deepO 0 (record_Encode_i14_1_O k)) <| icons 24 3 (record_Encode_i24_3_h, Tryd.f24, deepO 0 (record_Encode_i24_3_O k)) <| icons 25 4 (record_Encode_i25_4_h, Tryd.f25, deepO 0 (record_Encode_i25_4_O k)) <| icons 26 5 (record_Encode_i26_5_h, Tryd.f26, deepO 0 (record_Encode_i26_5_O k)) <| icons 27 6 (record_Encode_i27_6_h, Tryd.f27, deepO 0 (record_Encode_i27_6_O k)) <| icons 28 7 (record_Encode_i28_7_h, Tryd.f28, deepO 0 (record_Encode_i28_7_O k)) <| icons 29 8 (record_Encode_i29_8_h, Tryd.f29, deepO 0 (record_Encode_i29_8_O k)) <| icons 14 8 (record_Encode_i14_8_h, Tryd.f14, deepO 0 (record_Encode_i14_8_O k)) <| icons 24 10 (record_Encode_i24_10_h, Tryd.f24, deepO 0 (record_Encode_i24_10_O k)) <| icons 25 11 (record_Encode_i25_11_h, Tryd.f25, deepO 0 (record_Encode_i25_11_O k)) <| icons 26 12 (record_Encode_i26_12_h, Tryd.f26, deepO 0 (record_Encode_i26_12_O k)) <| icons 27 13 (record_Encode_i27_13_h, Tryd.f27, deepO 0 (record_Encode_i27_13_O k)) <| icons 28 14 (record_Encode_i28_14_h, Tryd.f28, deepO 0 (record_Encode_i28_14_O k)) <| icons 29 15 (record_Encode_i29_15_h, Tryd.f29, deepO 0 (record_Encode_i29_15_O k)) <| inone
theorem record_Encode_iok {R : Type} (k : Nat) : IOK Tryd.prog tab (record_Encode_F k) (record_Encode_I (R := R) k) := iok_cons Tryd.func13 Tryd.call13 (plainO (by kernel_rfl)) <| iok_cons Tryd.func14 Tryd.call14 (plainO (by kernel_rfl)) <| iok_cons Tryd.func24 Tryd.call24 (plainO (by kernel_rfl)) <| iok_cons Tryd.func25 Tryd.call25 (plainO (by kernel_rfl)) <| iok_cons Tryd.func26 Tryd.call26 (plainO (by kernel_rfl)) <| iok_cons Tryd.func27 Tryd.call27 (plainO (by kernel_rfl)) <| iok_cons Tryd.func28 Tryd.call28 (plainO (by kernel_rfl)) <| iok_cons Tryd.func29 Tryd.call29 (plainO (by kernel_rfl)) <| iok_cons Tryd.func14 Tryd.call14 (plainO (by kernel_rfl)) <| iok_cons Tryd.func24 Tryd.call24 (plainO (by kernel_rfl)) <| iok_cons Tryd.func25 Tryd.call25 (plainO (by kernel_rfl)) <| iok_cons Tryd.func26 Tryd.call26 (plainO (by kernel_rfl)) <| iok_cons Tryd.func27 Tryd.call27 (plainO (by kernel_rfl)) <| iok_cons Tryd.func28 Tryd.call28 (plainO (by kernel_rfl)) <| iok_cons Tryd.func29 Tryd.call29 (plainO (by kernel_rfl)) <| iok_none
theorem record_Encode_ev (k : Nat) (x : (record_Encode_p k).τ.den) : evalF tab (record_Encode_F k) (record_Encode_p k) (record_Encode_I k) 2 (record_Encode_O k) record_Encode_h Tryd.f7 x = (record_Encode_p k).f x := by kernel_rfl
theorem record_Encode_ok (k : Nat) : PFOK Tryd.prog tab 7 (record_Encode_p k) := pfok mixed tabOK (record_Encode_fok k) Tryd.func7 (I := record_Encode_I k) (d := 2) (record_Encode_iok k) (Q := record_Encode_O k) (hi := record_Encode_h) (cuts_of (l := []) (by kernel_rfl) trivial) (record_Encode_ev k)
end Go.Proofs.YtibdnfknokkadaaDoor.Ev

/- geom_within, told on plain data. Written by program. -/
set_option linter.unusedVariables false
set_option maxRecDepth 1000000
namespace Go.Proofs.YtibdnfknokkadaaDoor.Ev
open Go Go.RowKit Go.Proofs
noncomputable def geom_within (k : Nat) (n_258 : Int) (least_259 : Int) (most_260 : Int) : Option Bool :=
  bif (decide (least_259 ≤ n_258)) then
    some (decide (n_258 ≤ most_260))
  else some false
noncomputable def geom_within_p (k : Nat) : PF := { ps := [(false, 1), (false, 1), (false, 1)], rs := [(false, 1)], τ := (.pair (.int .i64) (.pair (.int .i64) (.int .i64))), σ := .bool, f := fun x => geom_within k x.1 x.2.1 x.2.2 }
noncomputable def geom_within_F (k : Nat) : PT := fnone
theorem geom_within_fok (k : Nat) : FOK Tryd.prog tab (geom_within_F k) := fok_none
noncomputable def geom_within_h : Hint := .no
noncomputable def geom_within_O {R : Type} (k : Nat) : CutK R := cutsO []
noncomputable def geom_within_I {R : Type} (k : Nat) : InlT R := inone
theorem geom_within_iok {R : Type} (k : Nat) : IOK Tryd.prog tab (geom_within_F k) (geom_within_I (R := R) k) := iok_none
theorem geom_within_ev (k : Nat) (x : (geom_within_p k).τ.den) : evalF tab (geom_within_F k) (geom_within_p k) (geom_within_I k) 0 (geom_within_O k) geom_within_h Tryd.f42 x = (geom_within_p k).f x := by kernel_rfl
theorem geom_within_ok (k : Nat) : PFOK Tryd.prog tab 42 (geom_within_p k) := pfok mixed tabOK (geom_within_fok k) Tryd.func42 (I := geom_within_I k) (d := 0) (geom_within_iok k) (Q := geom_within_O k) (hi := geom_within_h) (cuts_of (l := []) (by kernel_rfl) trivial) (geom_within_ev k)
end Go.Proofs.YtibdnfknokkadaaDoor.Ev

/- geom_Good, told on plain data. Written by program. -/
set_option linter.unusedVariables false
set_option maxRecDepth 1000000
namespace Go.Proofs.YtibdnfknokkadaaDoor.Ev
open Go Go.RowKit Go.Proofs
noncomputable def geom_Good (k : Nat) (ga_253 : Int) (gb_254 : Int) (gc_255 : Int) (gd_256 : Int) (ge_257 : Int) : Option Bool :=
  optb (geom_within k ga_253 (3 : Int) (16 : Int)) fun r_261 =>
  bif r_261 then
    optb (geom_within k gb_254 (5 : Int) (64 : Int)) fun r_262 =>
    bif r_262 then
      optb (geom_within k gc_255 (4 : Int) (256 : Int)) fun r_263 =>
      bif r_263 then
        optb (geom_within k gd_256 (1 : Int) ge_257) fun r_264 =>
        bif r_264 then
          some (decide (ge_257 ≤ gb_254))
        else some false
      else some false
    else some false
  else some false
noncomputable def geom_Good_p (k : Nat) : PF := { ps := [(true, 5)], rs := [(false, 1)], τ := (.pair (.int .i64) (.pair (.int .i64) (.pair (.int .i64) (.pair (.int .i64) (.int .i64))))), σ := .bool, f := fun x => geom_Good k x.1 x.2.1 x.2.2.1 x.2.2.2.1 x.2.2.2.2 }
noncomputable def geom_Good_F (k : Nat) : PT := fcons 42 (geom_within_p k) <| fnone
theorem geom_Good_fok (k : Nat) : FOK Tryd.prog tab (geom_Good_F k) := fok_cons (geom_within_ok k) Tryd.call42 <| fok_none
noncomputable def geom_Good_h : Hint := .no
noncomputable def geom_Good_O {R : Type} (k : Nat) : CutK R := cutsO []
noncomputable def geom_Good_I {R : Type} (k : Nat) : InlT R := inone
theorem geom_Good_iok {R : Type} (k : Nat) : IOK Tryd.prog tab (geom_Good_F k) (geom_Good_I (R := R) k) := iok_none
theorem geom_Good_ev (k : Nat) (x : (geom_Good_p k).τ.den) : evalF tab (geom_Good_F k) (geom_Good_p k) (geom_Good_I k) 0 (geom_Good_O k) geom_Good_h Tryd.f58 x = (geom_Good_p k).f x := by kernel_rfl
theorem geom_Good_ok (k : Nat) : PFOK Tryd.prog tab 58 (geom_Good_p k) := pfok mixed tabOK (geom_Good_fok k) Tryd.func58 (I := geom_Good_I k) (d := 0) (geom_Good_iok k) (Q := geom_Good_O k) (hi := geom_Good_h) (cuts_of (l := []) (by kernel_rfl) trivial) (geom_Good_ev k)
end Go.Proofs.YtibdnfknokkadaaDoor.Ev

/- geom_Zones, told on plain data. Written by program. -/
set_option linter.unusedVariables false
set_option maxRecDepth 1000000
namespace Go.Proofs.YtibdnfknokkadaaDoor.Ev
open Go Go.RowKit Go.Proofs
noncomputable def geom_Zones (k : Nat) (ga_248 : Int) (gb_249 : Int) (gc_250 : Int) (gd_251 : Int) (ge_252 : Int) : Option Int :=
  optb (geom_Good k ga_248 gb_249 gc_250 gd_251 ge_252) fun r_266 =>
  bif (!r_266) then
    some (0 : Int)
  else some (wrap64 ((wrap64 (gb_249 - (2 : Int))) - (1 : Int)))
noncomputable def geom_Zones_p (k : Nat) : PF := { ps := [(true, 5)], rs := [(false, 1)], τ := (.pair (.int .i64) (.pair (.int .i64) (.pair (.int .i64) (.pair (.int .i64) (.int .i64))))), σ := (.int .i64), f := fun x => geom_Zones k x.1 x.2.1 x.2.2.1 x.2.2.2.1 x.2.2.2.2 }
noncomputable def geom_Zones_F (k : Nat) : PT := fcons 58 (geom_Good_p k) <| fnone
theorem geom_Zones_fok (k : Nat) : FOK Tryd.prog tab (geom_Zones_F k) := fok_cons (geom_Good_ok k) Tryd.call58 <| fok_none
noncomputable def geom_Zones_h : Hint := .no
noncomputable def geom_Zones_O {R : Type} (k : Nat) : CutK R := cutsO []
noncomputable def geom_Zones_I {R : Type} (k : Nat) : InlT R := inone
theorem geom_Zones_iok {R : Type} (k : Nat) : IOK Tryd.prog tab (geom_Zones_F k) (geom_Zones_I (R := R) k) := iok_none
theorem geom_Zones_ev (k : Nat) (x : (geom_Zones_p k).τ.den) : evalF tab (geom_Zones_F k) (geom_Zones_p k) (geom_Zones_I k) 0 (geom_Zones_O k) geom_Zones_h Tryd.f57 x = (geom_Zones_p k).f x := by kernel_rfl
theorem geom_Zones_ok (k : Nat) : PFOK Tryd.prog tab 57 (geom_Zones_p k) := pfok mixed tabOK (geom_Zones_fok k) Tryd.func57 (I := geom_Zones_I k) (d := 0) (geom_Zones_iok k) (Q := geom_Zones_O k) (hi := geom_Zones_h) (cuts_of (l := []) (by kernel_rfl) trivial) (geom_Zones_ev k)
end Go.Proofs.YtibdnfknokkadaaDoor.Ev

/- geom_there, told on plain data. Written by program. -/
set_option linter.unusedVariables false
set_option maxRecDepth 1000000
namespace Go.Proofs.YtibdnfknokkadaaDoor.Ev
open Go Go.RowKit Go.Proofs
noncomputable def geom_there (k : Nat) (ga_241 : Int) (gb_242 : Int) (gc_243 : Int) (gd_244 : Int) (ge_245 : Int) (zone_246 : Int) (row_247 : Int) : Option Bool :=
  optb (geom_Zones k ga_241 gb_242 gc_243 gd_244 ge_245) fun r_268 =>
  optb (geom_within k zone_246 (0 : Int) (wrap64 (r_268 - (1 : Int)))) fun r_269 =>
  bif r_269 then
    optb (geom_within k row_247 (0 : Int) (wrap64 (gc_243 - (1 : Int)))) fun r_270 =>
    some r_270
  else some false
noncomputable def geom_there_p (k : Nat) : PF := { ps := [(true, 5), (false, 1), (false, 1)], rs := [(false, 1)], τ := (.pair (.pair (.int .i64) (.pair (.int .i64) (.pair (.int .i64) (.pair (.int .i64) (.int .i64))))) (.pair (.int .i64) (.int .i64))), σ := .bool, f := fun x => geom_there k x.1.1 x.1.2.1 x.1.2.2.1 x.1.2.2.2.1 x.1.2.2.2.2 x.2.1 x.2.2 }
noncomputable def geom_there_F (k : Nat) : PT := fcons 57 (geom_Zones_p k) <| fcons 42 (geom_within_p k) <| fnone
theorem geom_there_fok (k : Nat) : FOK Tryd.prog tab (geom_there_F k) := fok_cons (geom_Zones_ok k) Tryd.call57 <| fok_cons (geom_within_ok k) Tryd.call42 <| fok_none
noncomputable def geom_there_h : Hint := .no
noncomputable def geom_there_O {R : Type} (k : Nat) : CutK R := cutsO []
noncomputable def geom_there_I {R : Type} (k : Nat) : InlT R := inone
theorem geom_there_iok {R : Type} (k : Nat) : IOK Tryd.prog tab (geom_there_F k) (geom_there_I (R := R) k) := iok_none
theorem geom_there_ev (k : Nat) (x : (geom_there_p k).τ.den) : evalF tab (geom_there_F k) (geom_there_p k) (geom_there_I k) 0 (geom_there_O k) geom_there_h Tryd.f41 x = (geom_there_p k).f x := by kernel_rfl
theorem geom_there_ok (k : Nat) : PFOK Tryd.prog tab 41 (geom_there_p k) := pfok mixed tabOK (geom_there_fok k) Tryd.func41 (I := geom_there_I k) (d := 0) (geom_there_iok k) (Q := geom_there_O k) (hi := geom_there_h) (cuts_of (l := []) (by kernel_rfl) trivial) (geom_there_ev k)
end Go.Proofs.YtibdnfknokkadaaDoor.Ev

/- geom_Capacity, told on plain data. Written by program. -/
set_option linter.unusedVariables false
set_option maxRecDepth 1000000
namespace Go.Proofs.YtibdnfknokkadaaDoor.Ev
open Go Go.RowKit Go.Proofs
noncomputable def geom_Capacity (k : Nat) (ga_271 : Int) (gb_272 : Int) (gc_273 : Int) (gd_274 : Int) (ge_275 : Int) : Option Int :=
  optb (geom_Good k ga_271 gb_272 gc_273 gd_274 ge_275) fun r_277 =>
  bif (!r_277) then
    some (0 : Int)
  else some (wrap64 ((wrap64 (ga_271 - (1 : Int))) * gc_273))
noncomputable def geom_Capacity_p (k : Nat) : PF := { ps := [(true, 5)], rs := [(false, 1)], τ := (.pair (.int .i64) (.pair (.int .i64) (.pair (.int .i64) (.pair (.int .i64) (.int .i64))))), σ := (.int .i64), f := fun x => geom_Capacity k x.1 x.2.1 x.2.2.1 x.2.2.2.1 x.2.2.2.2 }
noncomputable def geom_Capacity_F (k : Nat) : PT := fcons 58 (geom_Good_p k) <| fnone
theorem geom_Capacity_fok (k : Nat) : FOK Tryd.prog tab (geom_Capacity_F k) := fok_cons (geom_Good_ok k) Tryd.call58 <| fok_none
noncomputable def geom_Capacity_h : Hint := .no
noncomputable def geom_Capacity_O {R : Type} (k : Nat) : CutK R := cutsO []
noncomputable def geom_Capacity_I {R : Type} (k : Nat) : InlT R := inone
theorem geom_Capacity_iok {R : Type} (k : Nat) : IOK Tryd.prog tab (geom_Capacity_F k) (geom_Capacity_I (R := R) k) := iok_none
theorem geom_Capacity_ev (k : Nat) (x : (geom_Capacity_p k).τ.den) : evalF tab (geom_Capacity_F k) (geom_Capacity_p k) (geom_Capacity_I k) 0 (geom_Capacity_O k) geom_Capacity_h Tryd.f43 x = (geom_Capacity_p k).f x := by kernel_rfl
theorem geom_Capacity_ok (k : Nat) : PFOK Tryd.prog tab 43 (geom_Capacity_p k) := pfok mixed tabOK (geom_Capacity_fok k) Tryd.func43 (I := geom_Capacity_I k) (d := 0) (geom_Capacity_iok k) (Q := geom_Capacity_O k) (hi := geom_Capacity_h) (cuts_of (l := []) (by kernel_rfl) trivial) (geom_Capacity_ev k)
end Go.Proofs.YtibdnfknokkadaaDoor.Ev

/- geom_Parity, told on plain data. Written by program. -/
set_option linter.unusedVariables false
set_option maxRecDepth 1000000
namespace Go.Proofs.YtibdnfknokkadaaDoor.Ev
open Go Go.RowKit Go.Proofs
noncomputable def geom_Parity (k : Nat) (ga_399 : Int) (gb_400 : Int) (gc_401 : Int) (gd_402 : Int) (ge_403 : Int) (zone_404 : Int) (row_405 : Int) : Option Int :=
  optb (geom_there k ga_399 gb_400 gc_401 gd_402 ge_403 zone_404 row_405) fun r_407 =>
  bif (!r_407) then
    some (-1 : Int)
  else bif (decide (ga_399 = (0 : Int))) then
    none
  else some (Int.tmod (wrap64 (zone_404 + row_405)) ga_399)
noncomputable def geom_Parity_p (k : Nat) : PF := { ps := [(true, 5), (false, 1), (false, 1)], rs := [(false, 1)], τ := (.pair (.pair (.int .i64) (.pair (.int .i64) (.pair (.int .i64) (.pair (.int .i64) (.int .i64))))) (.pair (.int .i64) (.int .i64))), σ := (.int .i64), f := fun x => geom_Parity k x.1.1 x.1.2.1 x.1.2.2.1 x.1.2.2.2.1 x.1.2.2.2.2 x.2.1 x.2.2 }
noncomputable def geom_Parity_F (k : Nat) : PT := fcons 41 (geom_there_p k) <| fnone
theorem geom_Parity_fok (k : Nat) : FOK Tryd.prog tab (geom_Parity_F k) := fok_cons (geom_there_ok k) Tryd.call41 <| fok_none
noncomputable def geom_Parity_h : Hint := .no
noncomputable def geom_Parity_O {R : Type} (k : Nat) : CutK R := cutsO []
noncomputable def geom_Parity_I {R : Type} (k : Nat) : InlT R := inone
theorem geom_Parity_iok {R : Type} (k : Nat) : IOK Tryd.prog tab (geom_Parity_F k) (geom_Parity_I (R := R) k) := iok_none
theorem geom_Parity_ev (k : Nat) (x : (geom_Parity_p k).τ.den) : evalF tab (geom_Parity_F k) (geom_Parity_p k) (geom_Parity_I k) 0 (geom_Parity_O k) geom_Parity_h Tryd.f22 x = (geom_Parity_p k).f x := by kernel_rfl
theorem geom_Parity_ok (k : Nat) : PFOK Tryd.prog tab 22 (geom_Parity_p k) := pfok mixed tabOK (geom_Parity_fok k) Tryd.func22 (I := geom_Parity_I k) (d := 0) (geom_Parity_iok k) (Q := geom_Parity_O k) (hi := geom_Parity_h) (cuts_of (l := []) (by kernel_rfl) trivial) (geom_Parity_ev k)
end Go.Proofs.YtibdnfknokkadaaDoor.Ev

/- geom_Place, told on plain data. Written by program. -/
set_option linter.unusedVariables false
set_option maxRecDepth 1000000
namespace Go.Proofs.YtibdnfknokkadaaDoor.Ev
open Go Go.RowKit Go.Proofs
noncomputable def geom_Place_j0 {R : Type} (e0 : Int → Int → Bool → Option R) (e1 : Option R) (k : Nat) (v_366 : Bool) : Option R :=
  bif v_366 then
    e0 (0 : Int) (0 : Int) false
  else e1
noncomputable def geom_Place_j1 {R : Type} (e0 : Int → Bool → Option R) (k : Nat) (zone_391 : Int) (row_392 : Int) (k_393 : Int) (ga_394 : Int) (gb_395 : Int) (gc_396 : Int) (gd_397 : Int) (ge_398 : Int) : Option R :=
  optb (geom_Parity k ga_394 gb_395 gc_396 gd_397 ge_398 zone_391 row_392) fun r_409 =>
  bif (decide (ga_394 = (0 : Int))) then
    none
  else e0 (Int.tmod (wrap64 ((wrap64 (r_409 + (1 : Int))) + k_393)) ga_394) true
noncomputable def geom_Place_k0 (k : Nat) : Int → Int → Bool → Option (Int × (Int × Bool)) := fun v_374 v_375 v_376 =>
  some (v_374, (v_375, v_376))
noncomputable def geom_Place_k1 (k : Nat) (block_240 : Int) (ga_234 : Int) (gb_235 : Int) (gc_236 : Int) (gd_237 : Int) (ge_238 : Int) (zone_239 : Int) : Option (Int × (Int × Bool)) := 
  bif (decide ((wrap64 (ga_234 - (1 : Int))) = (0 : Int))) then
    none
  else let z_389 := (wrap64 (Int.tdiv block_240 (wrap64 (ga_234 - (1 : Int)))))
  bif (decide ((wrap64 (ga_234 - (1 : Int))) = (0 : Int))) then
    none
  else geom_Place_j1 (fun v_412 v_413 =>
    some (z_389, (v_412, v_413))) k zone_239 z_389 (Int.tmod block_240 (wrap64 (ga_234 - (1 : Int)))) ga_234 gb_235 gc_236 gd_237 ge_238
noncomputable def geom_Place (k : Nat) (ga_234 : Int) (gb_235 : Int) (gc_236 : Int) (gd_237 : Int) (ge_238 : Int) (zone_239 : Int) (block_240 : Int) : Option (Int × (Int × Bool)) :=
  optb (geom_there k ga_234 gb_235 gc_236 gd_237 ge_238 zone_239 (0 : Int)) fun r_363 =>
  bif (!r_363) then
    geom_Place_j0 (geom_Place_k0 k) (geom_Place_k1 k block_240 ga_234 gb_235 gc_236 gd_237 ge_238 zone_239) k true
  else optb (geom_Capacity k ga_234 gb_235 gc_236 gd_237 ge_238) fun r_414 =>
  optb (geom_within k block_240 (0 : Int) (wrap64 (r_414 - (1 : Int)))) fun r_415 =>
  geom_Place_j0 (geom_Place_k0 k) (geom_Place_k1 k block_240 ga_234 gb_235 gc_236 gd_237 ge_238 zone_239) k (!r_415)
noncomputable def geom_Place_p (k : Nat) : PF := { ps := [(true, 5), (false, 1), (false, 1)], rs := [(false, 1), (false, 1), (false, 1)], τ := (.pair (.pair (.int .i64) (.pair (.int .i64) (.pair (.int .i64) (.pair (.int .i64) (.int .i64))))) (.pair (.int .i64) (.int .i64))), σ := (.pair (.int .i64) (.pair (.int .i64) .bool)), f := fun x => geom_Place k x.1.1 x.1.2.1 x.1.2.2.1 x.1.2.2.2.1 x.1.2.2.2.2 x.2.1 x.2.2 }
noncomputable def geom_Place_F (k : Nat) : PT := fcons 41 (geom_there_p k) <| fcons 43 (geom_Capacity_p k) <| fcons 42 (geom_within_p k) <| fcons 22 (geom_Parity_p k) <| fnone
theorem geom_Place_fok (k : Nat) : FOK Tryd.prog tab (geom_Place_F k) := fok_cons (geom_there_ok k) Tryd.call41 <| fok_cons (geom_Capacity_ok k) Tryd.call43 <| fok_cons (geom_within_ok k) Tryd.call42 <| fok_cons (geom_Parity_ok k) Tryd.call22 <| fok_none
noncomputable def geom_Place_c0 : Cl := { keep := [1, 2, 3, 22], hl := 1, ad := [], adc := [], bump := [] }
noncomputable def geom_Place_x0 : Cl := { keep := [1, 2, 3, 6, 7, 8], hl := 1, ad := [], adc := [], bump := [] }
noncomputable def geom_Place_c1 : Cl := { keep := [1, 3, 9, 10], hl := 1, ad := [], adc := [], bump := [] }
noncomputable def geom_Place_x1 : Cl := { keep := [6, 7, 8], hl := 0, ad := [], adc := [], bump := [] }
noncomputable def geom_Place_h : Hint := (.sq .no (.sq (.ct geom_Place_c0 geom_Place_x0 0 .no .no) (.ct geom_Place_c1 geom_Place_x1 1 .no .no)))
noncomputable def geom_Place_j0_E0 {R : Type} (K : EX → St → Option R) : Int → Int → Int → Int → Bool → Int → Int → Int → Int → Int → Option R := fun v0 v1 v2 v3 v4 v5 v6 v7 v8 v9 => K .ret (mkSt 44 [] geom_Place_x0.keep [.int .i64 v0, .int .i64 v1, .ptr 0 0, .int .i64 v2, .int .i64 v3, .bool v4] [.blk [.int .i64 v5, .int .i64 v6, .int .i64 v7, .int .i64 v8, .int .i64 v9]])
noncomputable def geom_Place_j0_E1 {R : Type} (K : EX → St → Option R) : Int → Int → Int → Int → Int → Int → Int → Option R := fun v0 v1 v2 v3 v4 v5 v6 => K .normal (mkSt 44 [] geom_Place_x0.keep [.int .i64 v0, .int .i64 v1, .ptr 0 0, .junk, .junk, .junk] [.blk [.int .i64 v2, .int .i64 v3, .int .i64 v4, .int .i64 v5, .int .i64 v6]])
noncomputable def geom_Place_j0_S (zone_364 : Int) (block_365 : Int) (v_366 : Bool) (ga_367 : Int) (gb_368 : Int) (gc_369 : Int) (gd_370 : Int) (ge_371 : Int) : St := mkSt 44 [] geom_Place_c0.keep [.int .i64 zone_364, .int .i64 block_365, .ptr 0 0, .bool v_366] [.blk [.int .i64 ga_367, .int .i64 gb_368, .int .i64 gc_369, .int .i64 gd_370, .int .i64 ge_371]]
noncomputable def geom_Place_j0_sh : Rd (List AV × List HE) := .pair (.cons (.int .i64) (.cons (.int .i64) (.cons (.ptr 0 0) (.cons .bool Rd.nil)))) (.cons (.blk (.cons (.int .i64) (.cons (.int .i64) (.cons (.int .i64) (.cons (.int .i64) (.cons (.int .i64) Rd.nil)))))) Rd.nil)
noncomputable def geom_Place_j0_a {R : Type} (k : Nat) : Alt R := { n := 44, v := [], sh := geom_Place_j0_sh, g := fun K x => geom_Place_j0 (fun y2 y3 y4 => geom_Place_j0_E0 K x.1.1 x.1.2.1 y2 y3 y4 x.2.1.1 x.2.1.2.1 x.2.1.2.2.1 x.2.1.2.2.2.1 x.2.1.2.2.2.2.1) (geom_Place_j0_E1 K x.1.1 x.1.2.1 x.2.1.1 x.2.1.2.1 x.2.1.2.2.1 x.2.1.2.2.2.1 x.2.1.2.2.2.2.1) k x.1.2.2.2.1 }
noncomputable def geom_Place_j1_E0 {R : Type} (K : EX → St → Option R) : Int → Int → Bool → Option R := fun v0 v1 v2 => K .ret (mkSt 44 [] geom_Place_x1.keep [.int .i64 v0, .int .i64 v1, .bool v2] [])
noncomputable def geom_Place_j1_S (zone_391 : Int) (row_392 : Int) (k_393 : Int) (ga_394 : Int) (gb_395 : Int) (gc_396 : Int) (gd_397 : Int) (ge_398 : Int) : St := mkSt 44 [] geom_Place_c1.keep [.int .i64 zone_391, .ptr 0 0, .int .i64 row_392, .int .i64 k_393] [.blk [.int .i64 ga_394, .int .i64 gb_395, .int .i64 gc_396, .int .i64 gd_397, .int .i64 ge_398]]
noncomputable def geom_Place_j1_sh : Rd (List AV × List HE) := .pair (.cons (.int .i64) (.cons (.ptr 0 0) (.cons (.int .i64) (.cons (.int .i64) Rd.nil)))) (.cons (.blk (.cons (.int .i64) (.cons (.int .i64) (.cons (.int .i64) (.cons (.int .i64) (.cons (.int .i64) Rd.nil)))))) Rd.nil)
noncomputable def geom_Place_j1_a {R : Type} (k : Nat) : Alt R := { n := 44, v := [], sh := geom_Place_j1_sh, g := fun K x => geom_Place_j1 (fun y1 y2 => geom_Place_j1_E0 K x.1.2.2.1 y1 y2) k x.1.1 x.1.2.2.1 x.1.2.2.2.1 x.2.1.1 x.2.1.2.1 x.2.1.2.2.1 x.2.1.2.2.2.1 x.2.1.2.2.2.2.1 }
noncomputable def geom_Place_O {R : Type} (k : Nat) : CutK R := cutsO [[geom_Place_j0_a k], [geom_Place_j1_a k]]
noncomputable def geom_Place_b : List Ob := obs (bodyOf Tryd.f20) geom_Place_h
noncomputable def geom_Place_I {R : Type} (k : Nat) : InlT R := inone
theorem geom_Place_j0_eq {R : Type} (k : Nat) (K : EX → St → Option R) (zone_364 : Int) (block_365 : Int) (v_366 : Bool) (ga_367 : Int) (gb_368 : Int) (gc_369 : Int) (gd_370 : Int) (ge_371 : Int) : geom_Place_j0 (fun y2 y3 y4 => geom_Place_j0_E0 K zone_364 block_365 y2 y3 y4 ga_367 gb_368 gc_369 gd_370 ge_371) (geom_Place_j0_E1 K zone_364 block_365 ga_367 gb_368 gc_369 gd_370 ge_371) k v_366 = ev tab (geom_Place_F k) (inlK tab (geom_Place_F k) (geom_Place_I k) 0) (geom_Place_O k) (obB geom_Place_b 0) (obH geom_Place_b 0) (geom_Place_j0_S zone_364 block_365 v_366 ga_367 gb_368 gc_369 gd_370 ge_371) (fun e st => optb (clean geom_Place_x0 st) fun st => K e st) := by kernel_rfl
theorem geom_Place_j0_ok {R : Type} (k : Nat)  : ObOK (R := R) tab (geom_Place_F k) (inlK tab (geom_Place_F k) (geom_Place_I k) 0) (geom_Place_O k) (.join geom_Place_c0 geom_Place_x0 0 (obB geom_Place_b 0) (obH geom_Place_b 0)) :=
  join_ok (l := [geom_Place_j0_a k]) (by kernel_rfl) ⟨(fun K x => (geom_Place_j0_eq k K x.1.1 x.1.2.1 x.1.2.2.2.1 x.2.1.1 x.2.1.2.1 x.2.1.2.2.1 x.2.1.2.2.2.1 x.2.1.2.2.2.2.1).trans (by kernel_rfl)), trivial⟩
theorem geom_Place_j1_eq {R : Type} (k : Nat) (K : EX → St → Option R) (zone_391 : Int) (row_392 : Int) (k_393 : Int) (ga_394 : Int) (gb_395 : Int) (gc_396 : Int) (gd_397 : Int) (ge_398 : Int) : geom_Place_j1 (fun y1 y2 => geom_Place_j1_E0 K row_392 y1 y2) k zone_391 row_392 k_393 ga_394 gb_395 gc_396 gd_397 ge_398 = ev tab (geom_Place_F k) (inlK tab (geom_Place_F k) (geom_Place_I k) 0) (geom_Place_O k) (obB geom_Place_b 1) (obH geom_Place_b 1) (geom_Place_j1_S zone_391 row_392 k_393 ga_394 gb_395 gc_396 gd_397 ge_398) (fun e st => optb (clean geom_Place_x1 st) fun st => K e st) := by kernel_rfl
theorem geom_Place_j1_ok {R : Type} (k : Nat)  : ObOK (R := R) tab (geom_Place_F k) (inlK tab (geom_Place_F k) (geom_Place_I k) 0) (geom_Place_O k) (.join geom_Place_c1 geom_Place_x1 1 (obB geom_Place_b 1) (obH geom_Place_b 1)) :=
  join_ok (l := [geom_Place_j1_a k]) (by kernel_rfl) ⟨(fun K x => (geom_Place_j1_eq k K x.1.1 x.1.2.2.1 x.1.2.2.2.1 x.2.1.1 x.2.1.2.1 x.2.1.2.2.1 x.2.1.2.2.2.1 x.2.1.2.2.2.2.1).trans (by kernel_rfl)), trivial⟩
theorem geom_Place_cuts {R : Type} (k : Nat) : ∀ c, Tryd.f20.body = some c → CutsOK (R := R) tab (geom_Place_F k) (inlK tab (geom_Place_F k) (geom_Place_I k) 0) (geom_Place_O k) c geom_Place_h :=
  cuts_of (l := [.join geom_Place_c0 geom_Place_x0 0 (obB geom_Place_b 0) (obH geom_Place_b 0), .join geom_Place_c1 geom_Place_x1 1 (obB geom_Place_b 1) (obH geom_Place_b 1)]) (by kernel_rfl) ⟨geom_Place_j0_ok k, geom_Place_j1_ok k, trivial⟩
theorem geom_Place_iok {R : Type} (k : Nat) : IOK Tryd.prog tab (geom_Place_F k) (geom_Place_I (R := R) k) := iok_none
theorem geom_Place_ev (k : Nat) (x : (geom_Place_p k).τ.den) : evalF tab (geom_Place_F k) (geom_Place_p k) (geom_Place_I k) 0 (geom_Place_O k) geom_Place_h Tryd.f20 x = (geom_Place_p k).f x := by kernel_rfl
theorem geom_Place_ok (k : Nat) : PFOK Tryd.prog tab 20 (geom_Place_p k) := pfok mixed tabOK (geom_Place_fok k) Tryd.func20 (I := geom_Place_I k) (d := 0) (geom_Place_iok k) (Q := geom_Place_O k) (hi := geom_Place_h) (geom_Place_cuts k) (geom_Place_ev k)
end Go.Proofs.YtibdnfknokkadaaDoor.Ev

/- corbeltop_sums, told on plain data. Written by program. -/
set_option linter.unusedVariables false
set_option maxRecDepth 1000000
namespace Go.Proofs.YtibdnfknokkadaaDoor.Ev
open Go Go.RowKit Go.Proofs
noncomputable def corbeltop_sums (k : Nat)  : Option Bool :=
  optb (nums_Put k (258 : Int) (2 : Int)) fun r_417 =>
  bif (decide (r_417 = (⟨#[1, 2]⟩ : ByteArray))) then
    optb (crc_Sum k false ([(⟨#[49, 50, 51, 52, 53, 54, 55, 56, 57]⟩ : ByteArray)] : List ByteArray)) fun r_418 =>
    some (decide (r_418 = (3808858755 : Int)))
  else some false
noncomputable def corbeltop_sums_p (k : Nat) : PF := { ps := [], rs := [(false, 1)], τ := .bool, σ := .bool, f := fun x => corbeltop_sums k }
noncomputable def corbeltop_sums_F (k : Nat) : PT := fcons 15 (nums_Put_p k) <| fcons 16 (crc_Sum_p k) <| fnone
theorem corbeltop_sums_fok (k : Nat) : FOK Tryd.prog tab (corbeltop_sums_F k) := fok_cons (nums_Put_ok k) Tryd.call15 <| fok_cons (crc_Sum_ok k) Tryd.call16 <| fok_none
noncomputable def corbeltop_sums_h : Hint := .no
noncomputable def corbeltop_sums_O {R : Type} (k : Nat) : CutK R := cutsO []
noncomputable def corbeltop_sums_I {R : Type} (k : Nat) : InlT R := inone
theorem corbeltop_sums_iok {R : Type} (k : Nat) : IOK Tryd.prog tab (corbeltop_sums_F k) (corbeltop_sums_I (R := R) k) := iok_none
theorem corbeltop_sums_ev (k : Nat) (x : (corbeltop_sums_p k).τ.den) : evalF tab (corbeltop_sums_F k) (corbeltop_sums_p k) (corbeltop_sums_I k) 0 (corbeltop_sums_O k) corbeltop_sums_h Tryd.f21 x = (corbeltop_sums_p k).f x := by kernel_rfl
theorem corbeltop_sums_ok (k : Nat) : PFOK Tryd.prog tab 21 (corbeltop_sums_p k) := pfok mixed tabOK (corbeltop_sums_fok k) Tryd.func21 (I := corbeltop_sums_I k) (d := 0) (corbeltop_sums_iok k) (Q := corbeltop_sums_O k) (hi := corbeltop_sums_h) (cuts_of (l := []) (by kernel_rfl) trivial) (corbeltop_sums_ev k)
end Go.Proofs.YtibdnfknokkadaaDoor.Ev

/- xor_load, told on plain data. Written by program. -/
set_option linter.unusedVariables false
set_option maxRecDepth 1000000
namespace Go.Proofs.YtibdnfknokkadaaDoor.Ev
open Go Go.RowKit Go.Proofs
noncomputable def xor_load_l0s {R : Type} (rc : Int → Int → Option R) (e0 : Int → Option R) (k : Nat) (s_497 : ByteArray) (at_498 : Int) (w_499 : Int) (v_500 : Int) : Option R :=
  bif (decide (v_500 < (8 : Int))) then
    bif ((decide ((0 : Int) ≤ (wrap64 (at_498 + v_500)))) && (decide ((wrap64 (at_498 + v_500)) < (sizeI s_497)))) then
      bif (decide ((wrap64 ((8 : Int) * v_500)) < (0 : Int))) then
        none
      else rc (bitop .or .u64 w_499 (shlv .u64 (IntKind.u64.wrap (bt s_497 (wrap64 (at_498 + v_500)))) (wrap64 ((8 : Int) * v_500)))) (wrap64 (v_500 + (1 : Int)))
    else none
  else e0 w_499
noncomputable def xor_load_l0 {R : Type} (e0 : Int → Option R) (k : Nat) (s_497 : ByteArray) (at_498 : Int) : Nat → Int → Int → Option R
  | 0 => fun _ _ => none
  | j + 1 => xor_load_l0s (xor_load_l0 e0 k s_497 at_498 j) e0 k s_497 at_498
noncomputable def xor_load (k : Nat) (s_495 : ByteArray) (at_496 : Int) : Option Int :=
  xor_load_l0 (fun w_505 =>
    some w_505) k s_495 at_496 k (0 : Int) (0 : Int)
noncomputable def xor_load_p (k : Nat) : PF := { ps := [(false, 1), (false, 1)], rs := [(false, 1)], τ := (.pair .str (.int .i64)), σ := (.int .u64), f := fun x => xor_load k x.1 x.2 }
noncomputable def xor_load_F (k : Nat) : PT := fnone
theorem xor_load_fok (k : Nat) : FOK Tryd.prog tab (xor_load_F k) := fok_none
noncomputable def xor_load_c0 : Cl := { keep := [0, 1, 5, 7], hl := 0, ad := [], adc := [], bump := [] }
noncomputable def xor_load_x0 : Cl := { keep := [5], hl := 0, ad := [], adc := [], bump := [] }
noncomputable def xor_load_h : Hint := (.sq .no (.sq .no (.sq (.sq .no (.lp xor_load_c0 xor_load_x0 0 .no)) .no)))
noncomputable def xor_load_l0_E0 {R : Type} (K : EX → St → Option R) : Int → Option R := fun v0 => K (.exit 0) (mkSt 23 [] xor_load_x0.keep [.int .u64 v0] [])
noncomputable def xor_load_l0_S (s_497 : ByteArray) (at_498 : Int) (w_499 : Int) (v_500 : Int) : St := mkSt 23 [] xor_load_c0.keep [.str s_497, .int .i64 at_498, .int .u64 w_499, .int .i64 v_500] []
noncomputable def xor_load_l0_sh : Rd (List AV × List HE) := .pair (.cons .str (.cons (.int .i64) (.cons (.int .u64) (.cons (.int .i64) Rd.nil)))) Rd.nil
noncomputable def xor_load_l0_a {R : Type} (k : Nat) : Alt R := { n := 23, v := [], sh := xor_load_l0_sh, g := fun K x => xor_load_l0 (xor_load_l0_E0 K) k x.1.1 x.1.2.1 k x.1.2.2.1 x.1.2.2.2.1 }
noncomputable def xor_load_O {R : Type} (k : Nat) : CutK R := cutsO [[xor_load_l0_a k]]
noncomputable def xor_load_b : List Ob := obs (bodyOf Tryd.f75) xor_load_h
noncomputable def xor_load_I {R : Type} (k : Nat) : InlT R := inone
theorem xor_load_l0_eq {R : Type} (k : Nat) (K : EX → St → Option R) (s_497 : ByteArray) (at_498 : Int) : ∀ (j : Nat) (w_499 : Int) (v_500 : Int), xor_load_l0 (xor_load_l0_E0 K) k s_497 at_498 j w_499 v_500 = iter xor_load_c0 xor_load_x0 (ev tab (xor_load_F k) (inlK tab (xor_load_F k) (xor_load_I k) 0) (xor_load_O k) (obB xor_load_b 0) (obH xor_load_b 0)) j (xor_load_l0_S s_497 at_498 w_499 v_500) K
  | 0, _, _ => rfl
  | j + 1, w_499, v_500 => by
    have e : xor_load_l0 (xor_load_l0_E0 K) k s_497 at_498 j = fun w_499 v_500 => iter xor_load_c0 xor_load_x0 (ev tab (xor_load_F k) (inlK tab (xor_load_F k) (xor_load_I k) 0) (xor_load_O k) (obB xor_load_b 0) (obH xor_load_b 0)) j (xor_load_l0_S s_497 at_498 w_499 v_500) K := by funext w_499 v_500; exact xor_load_l0_eq k K s_497 at_498 j w_499 v_500
    show xor_load_l0s (xor_load_l0 (xor_load_l0_E0 K) k s_497 at_498 j) (xor_load_l0_E0 K) k s_497 at_498 w_499 v_500 = _
    rw [e, iter_succ]; kernel_rfl
theorem xor_load_l0_ok {R : Type} (k : Nat)  : ObOK (R := R) tab (xor_load_F k) (inlK tab (xor_load_F k) (xor_load_I k) 0) (xor_load_O k) (.loop xor_load_c0 xor_load_x0 0 (obB xor_load_b 0) (obH xor_load_b 0)) :=
  loop_ok (l := [xor_load_l0_a k]) (by kernel_rfl) ⟨(fun K x => ⟨k, (xor_load_l0_eq k K x.1.1 x.1.2.1 k x.1.2.2.1 x.1.2.2.2.1).trans (by kernel_rfl)⟩), trivial⟩
theorem xor_load_cuts {R : Type} (k : Nat) : ∀ c, Tryd.f75.body = some c → CutsOK (R := R) tab (xor_load_F k) (inlK tab (xor_load_F k) (xor_load_I k) 0) (xor_load_O k) c xor_load_h :=
  cuts_of (l := [.loop xor_load_c0 xor_load_x0 0 (obB xor_load_b 0) (obH xor_load_b 0)]) (by kernel_rfl) ⟨xor_load_l0_ok k, trivial⟩
theorem xor_load_iok {R : Type} (k : Nat) : IOK Tryd.prog tab (xor_load_F k) (xor_load_I (R := R) k) := iok_none
theorem xor_load_ev (k : Nat) (x : (xor_load_p k).τ.den) : evalF tab (xor_load_F k) (xor_load_p k) (xor_load_I k) 0 (xor_load_O k) xor_load_h Tryd.f75 x = (xor_load_p k).f x := by kernel_rfl
theorem xor_load_ok (k : Nat) : PFOK Tryd.prog tab 75 (xor_load_p k) := pfok mixed tabOK (xor_load_fok k) Tryd.func75 (I := xor_load_I k) (d := 0) (xor_load_iok k) (Q := xor_load_O k) (hi := xor_load_h) (xor_load_cuts k) (xor_load_ev k)
end Go.Proofs.YtibdnfknokkadaaDoor.Ev

/- xor_Fold, told on plain data. Written by program. -/
set_option linter.unusedVariables false
set_option maxRecDepth 1000000
namespace Go.Proofs.YtibdnfknokkadaaDoor.Ev
open Go Go.RowKit Go.Proofs
noncomputable def xor_Fold_l0s {R : Type} (rc : Int → Int → Option R) (e0 : Int → Option R) (k : Nat) (vb_0 : List ByteArray) (v_1 : Int) (long_2 : Int) (v_3 : Int) : Option R :=
  bif (decide (v_3 < v_1)) then
    bif (decide ((0 : Int) ≤ v_3)) then
      optb (vb_0[v_3.toNat]?) fun x_4 =>
      rc (bif (decide ((sizeI x_4) > long_2)) then (sizeI x_4) else long_2) (wrap64 (v_3 + (1 : Int)))
    else none
  else e0 long_2
noncomputable def xor_Fold_l0 {R : Type} (e0 : Int → Option R) (k : Nat) (vb_0 : List ByteArray) (v_1 : Int) : Nat → Int → Int → Option R
  | 0 => fun _ _ => none
  | j + 1 => xor_Fold_l0s (xor_Fold_l0 e0 k vb_0 v_1 j) e0 k vb_0 v_1
noncomputable def xor_Fold_i76_1_j1 {R : Type} (e0 : List Int → Option R) (k : Nat) (at_5 : Int) (w_6 : Int) (k_7 : Int) (to_8 : List Int) : Option R :=
  bif ((decide ((0 : Int) ≤ (wrap64 (at_5 + k_7)))) && (decide ((wrap64 (at_5 + k_7)) < (lenI to_8)))) then
    optb (to_8[(wrap64 (at_5 + k_7)).toNat]?) fun x_9 =>
    bif (decide ((wrap64 ((8 : Int) * k_7)) < (0 : Int))) then
      none
    else bif ((decide ((0 : Int) ≤ (wrap64 (at_5 + k_7)))) && (decide ((wrap64 (at_5 + k_7)) < (lenI to_8)))) then
      optb (to_8[(wrap64 (at_5 + k_7)).toNat]?) fun x_10 =>
      e0 (List.set to_8 (wrap64 (at_5 + k_7)).toNat (bitop .xor .u8 x_9 (IntKind.u8.wrap (shrv .u64 w_6 (wrap64 ((8 : Int) * k_7))))))
    else none
  else none
noncomputable def xor_Fold_i76_1_l0s {R : Type} (rc : Int → List Int → Option R) (e0 : List Int → Option R) (k : Nat) (at_11 : Int) (w_12 : Int) (v_13 : Int) (to_14 : List Int) : Option R :=
  bif (decide (v_13 < (8 : Int))) then
    xor_Fold_i76_1_j1 (fun to_15 =>
      rc (wrap64 (v_13 + (1 : Int))) to_15) k at_11 w_12 v_13 to_14
  else e0 to_14
noncomputable def xor_Fold_i76_1_l0 {R : Type} (e0 : List Int → Option R) (k : Nat) (at_11 : Int) (w_12 : Int) : Nat → Int → List Int → Option R
  | 0 => fun _ _ => none
  | j + 1 => xor_Fold_i76_1_l0s (xor_Fold_i76_1_l0 e0 k at_11 w_12 j) e0 k at_11 w_12
noncomputable def xor_Fold_i59_1_j1 {R : Type} (e0 : Int → Option R) (k : Nat) (i_16 : Int) : Option R :=
  e0 (wrap64 (i_16 + (8 : Int)))
noncomputable def xor_Fold_i59_1_l0s {R : Type} (rc : Int → List Int → Option R) (e0 : Int → List Int → Option R) (k : Nat) (s_17 : ByteArray) (i_18 : Int) (to_19 : List Int) : Option R :=
  bif (decide ((wrap64 (i_18 + (8 : Int))) ≤ (sizeI s_17))) then
    optb (xor_load k s_17 i_18) fun r_20 =>
    bif (!(decide (r_20 = (0 : Int)))) then
      optb (xor_load k s_17 i_18) fun r_21 =>
      xor_Fold_i76_1_l0 (fun h_22 =>
        xor_Fold_i59_1_j1 (fun i_23 =>
          rc i_23 h_22) k i_18) k i_18 r_21 k (0 : Int) to_19
    else xor_Fold_i59_1_j1 (fun i_24 =>
      rc i_24 to_19) k i_18
  else e0 i_18 to_19
noncomputable def xor_Fold_i59_1_l0 {R : Type} (e0 : Int → List Int → Option R) (k : Nat) (s_17 : ByteArray) : Nat → Int → List Int → Option R
  | 0 => fun _ _ => none
  | j + 1 => xor_Fold_i59_1_l0s (xor_Fold_i59_1_l0 e0 k s_17 j) e0 k s_17
noncomputable def xor_Fold_i59_1_l2s {R : Type} (rc : Int → List Int → Option R) (e0 : List Int → Option R) (k : Nat) (s_25 : ByteArray) (i_26 : Int) (to_27 : List Int) : Option R :=
  bif (decide (i_26 < (sizeI s_25))) then
    bif ((decide ((0 : Int) ≤ i_26)) && (decide (i_26 < (lenI to_27)))) then
      optb (to_27[i_26.toNat]?) fun x_28 =>
      bif ((decide ((0 : Int) ≤ i_26)) && (decide (i_26 < (sizeI s_25)))) then
        bif ((decide ((0 : Int) ≤ i_26)) && (decide (i_26 < (lenI to_27)))) then
          optb (to_27[i_26.toNat]?) fun x_29 =>
          rc (wrap64 (i_26 + (1 : Int))) (List.set to_27 i_26.toNat (bitop .xor .u8 x_28 (bt s_25 i_26)))
        else none
      else none
    else none
  else e0 to_27
noncomputable def xor_Fold_i59_1_l2 {R : Type} (e0 : List Int → Option R) (k : Nat) (s_25 : ByteArray) : Nat → Int → List Int → Option R
  | 0 => fun _ _ => none
  | j + 1 => xor_Fold_i59_1_l2s (xor_Fold_i59_1_l2 e0 k s_25 j) e0 k s_25
noncomputable def xor_Fold_l1s {R : Type} (rc : Int → List Int → Option R) (e0 : List Int → Option R) (k : Nat) (vb_30 : List ByteArray) (v_31 : Int) (v_32 : Int) (out_33 : List Int) : Option R :=
  bif (decide (v_32 < v_31)) then
    bif (decide ((0 : Int) ≤ v_32)) then
      optb (vb_30[v_32.toNat]?) fun x_34 =>
      xor_Fold_i59_1_l0 (fun i_35 to_36 =>
        xor_Fold_i59_1_l2 (fun h_37 =>
          rc (wrap64 (v_32 + (1 : Int))) h_37) k x_34 k i_35 to_36) k x_34 k (0 : Int) out_33
    else none
  else e0 out_33
noncomputable def xor_Fold_l1 {R : Type} (e0 : List Int → Option R) (k : Nat) (vb_30 : List ByteArray) (v_31 : Int) : Nat → Int → List Int → Option R
  | 0 => fun _ _ => none
  | j + 1 => xor_Fold_l1s (xor_Fold_l1 e0 k vb_30 v_31 j) e0 k vb_30 v_31
noncomputable def xor_Fold (k : Nat) (partsa_421 : Bool) (partsb_422 : List ByteArray) : Option ByteArray :=
  xor_Fold_l0 (fun long_38 =>
    bif (((decide ((0 : Int) ≤ long_38)) && (decide (long_38 ≤ long_38))) && (decide (long_38 ≤ (1099511627776 : Int)))) then
      xor_Fold_l1 (fun out_39 =>
        some (bytesOf out_39)) k partsb_422 (lenI partsb_422) k (0 : Int) (List.replicate long_38.toNat (Ty.zero (.int .u8)))
    else none) k partsb_422 (lenI partsb_422) k (0 : Int) (0 : Int)
noncomputable def xor_Fold_p (k : Nat) : PF := { ps := [(false, 1)], rs := [(false, 1)], τ := (.sl .str), σ := .str, f := fun x => xor_Fold k x.1 x.2 }
noncomputable def xor_Fold_F (k : Nat) : PT := fcons 75 (xor_load_p k) <| fnone
theorem xor_Fold_fok (k : Nat) : FOK Tryd.prog tab (xor_Fold_F k) := fok_cons (xor_load_ok k) Tryd.call75 <| fok_none
noncomputable def xor_Fold_c0 : Cl := { keep := [0, 3, 9, 10, 11], hl := 0, ad := [], adc := [], bump := [] }
noncomputable def xor_Fold_x0 : Cl := { keep := [0, 3], hl := 0, ad := [], adc := [], bump := [] }
noncomputable def xor_Fold_c1 : Cl := { keep := [6, 22, 23, 24], hl := 1, ad := [], adc := [], bump := [] }
noncomputable def xor_Fold_x1 : Cl := { keep := [6], hl := 1, ad := [], adc := [], bump := [] }
noncomputable def xor_Fold_h : Hint := (.sq .no (.sq .no (.sq (.sq .no (.lp xor_Fold_c0 xor_Fold_x0 0 .no)) (.sq .no (.sq (.sq .no (.lp xor_Fold_c1 xor_Fold_x1 1 .no)) .no)))))
noncomputable def xor_Fold_l0_E0 {R : Type} (K : EX → St → Option R) : Bool → List ByteArray → Int → Option R := fun v0 v1 v2 => K (.exit 0) (mkSt 34 [] xor_Fold_x0.keep [.sl .str v0 v1, .int .i64 v2] [])
noncomputable def xor_Fold_l0_S (partsa_40 : Bool) (partsb_41 : List ByteArray) (long_2 : Int) (va_42 : Bool) (vb_0 : List ByteArray) (v_1 : Int) (v_3 : Int) : St := mkSt 34 [] xor_Fold_c0.keep [.sl .str partsa_40 partsb_41, .int .i64 long_2, .sl .str va_42 vb_0, .int .i64 v_1, .int .i64 v_3] []
noncomputable def xor_Fold_l0_sh : Rd (List AV × List HE) := .pair (.cons (.sl .str) (.cons (.int .i64) (.cons (.sl .str) (.cons (.int .i64) (.cons (.int .i64) Rd.nil))))) Rd.nil
noncomputable def xor_Fold_l0_a {R : Type} (k : Nat) : Alt R := { n := 34, v := [], sh := xor_Fold_l0_sh, g := fun K x => xor_Fold_l0 (fun y2 => xor_Fold_l0_E0 K x.1.1.1 x.1.1.2 y2) k x.1.2.2.1.2 x.1.2.2.2.1 k x.1.2.1 x.1.2.2.2.2.1 }
noncomputable def xor_Fold_l1_E0 {R : Type} (K : EX → St → Option R) : Bool → List Int → Option R := fun v0 v1 => K (.exit 2) (mkSt 34 [] xor_Fold_x1.keep [.own 0 1] [.lst (.int .u8) 5 v0 1 v1])
noncomputable def xor_Fold_l1_S (va_43 : Bool) (vb_30 : List ByteArray) (v_31 : Int) (v_32 : Int) (outN_44 : Bool) (out_33 : List Int) : St := mkSt 34 [] xor_Fold_c1.keep [.own 0 1, .sl .str va_43 vb_30, .int .i64 v_31, .int .i64 v_32] [.lst (.int .u8) 5 outN_44 1 out_33]
noncomputable def xor_Fold_l1_sh : Rd (List AV × List HE) := .pair (.cons (.own 0 1) (.cons (.sl .str) (.cons (.int .i64) (.cons (.int .i64) Rd.nil)))) (.cons (.lst (.int .u8) 5 1) Rd.nil)
noncomputable def xor_Fold_l1_a {R : Type} (k : Nat) : Alt R := { n := 34, v := [], sh := xor_Fold_l1_sh, g := fun K x => xor_Fold_l1 (fun y1 => xor_Fold_l1_E0 K x.2.1.1 y1) k x.1.2.1.2 x.1.2.2.1 k x.1.2.2.2.1 x.2.1.2 }
noncomputable def xor_Fold_O {R : Type} (k : Nat) : CutK R := cutsO [[xor_Fold_l0_a k], [xor_Fold_l1_a k]]
noncomputable def xor_Fold_b : List Ob := obs (bodyOf Tryd.f44) xor_Fold_h
noncomputable def xor_Fold_i59_1_c0 : Cl := { keep := [0, 1, 4], hl := 1, ad := [], adc := [], bump := [] }
noncomputable def xor_Fold_i59_1_x0 : Cl := { keep := [0, 1, 4], hl := 1, ad := [], adc := [], bump := [] }
noncomputable def xor_Fold_i59_1_c1 : Cl := { keep := [0, 1, 4], hl := 1, ad := [], adc := [], bump := [] }
noncomputable def xor_Fold_i59_1_x1 : Cl := { keep := [0, 1, 4], hl := 1, ad := [], adc := [], bump := [] }
noncomputable def xor_Fold_i59_1_c2 : Cl := { keep := [0, 1, 4], hl := 1, ad := [], adc := [], bump := [] }
noncomputable def xor_Fold_i59_1_x2 : Cl := { keep := [], hl := 1, ad := [], adc := [], bump := [] }
noncomputable def xor_Fold_i59_1_h : Hint := (.sq .no (.sq (.lp xor_Fold_i59_1_c0 xor_Fold_i59_1_x0 0 (.sq .no (.ct xor_Fold_i59_1_c1 xor_Fold_i59_1_x1 1 .no .no))) (.lp xor_Fold_i59_1_c2 xor_Fold_i59_1_x2 2 .no)))
noncomputable def xor_Fold_i59_1_l0_E0 {R : Type} (K : EX → St → Option R) : ByteArray → Int → Bool → List Int → Option R := fun v0 v1 v2 v3 => K (.exit 0) (mkSt 37 [1] xor_Fold_i59_1_x0.keep [.own 0 1, .str v0, .int .i64 v1] [.lst (.int .u8) 5 v2 1 v3])
noncomputable def xor_Fold_i59_1_l0_S (s_17 : ByteArray) (i_18 : Int) (toN_45 : Bool) (to_19 : List Int) : St := mkSt 37 [1] xor_Fold_i59_1_c0.keep [.own 0 1, .str s_17, .int .i64 i_18] [.lst (.int .u8) 5 toN_45 1 to_19]
noncomputable def xor_Fold_i59_1_l0_sh : Rd (List AV × List HE) := .pair (.cons (.own 0 1) (.cons .str (.cons (.int .i64) Rd.nil))) (.cons (.lst (.int .u8) 5 1) Rd.nil)
noncomputable def xor_Fold_i59_1_l0_a {R : Type} (k : Nat) : Alt R := { n := 37, v := [1], sh := xor_Fold_i59_1_l0_sh, g := fun K x => xor_Fold_i59_1_l0 (fun y1 y3 => xor_Fold_i59_1_l0_E0 K x.1.2.1 y1 x.2.1.1 y3) k x.1.2.1 k x.1.2.2.1 x.2.1.2 }
noncomputable def xor_Fold_i59_1_j1_E0 {R : Type} (K : EX → St → Option R) : ByteArray → Int → Bool → List Int → Option R := fun v0 v1 v2 v3 => K .normal (mkSt 37 [1] xor_Fold_i59_1_x1.keep [.own 0 1, .str v0, .int .i64 v1] [.lst (.int .u8) 5 v2 1 v3])
noncomputable def xor_Fold_i59_1_j1_S (s_46 : ByteArray) (i_16 : Int) (toN_47 : Bool) (to_48 : List Int) : St := mkSt 37 [1] xor_Fold_i59_1_c1.keep [.own 0 1, .str s_46, .int .i64 i_16] [.lst (.int .u8) 5 toN_47 1 to_48]
noncomputable def xor_Fold_i59_1_j1_sh : Rd (List AV × List HE) := .pair (.cons (.own 0 1) (.cons .str (.cons (.int .i64) Rd.nil))) (.cons (.lst (.int .u8) 5 1) Rd.nil)
noncomputable def xor_Fold_i59_1_j1_a {R : Type} (k : Nat) : Alt R := { n := 37, v := [1], sh := xor_Fold_i59_1_j1_sh, g := fun K x => xor_Fold_i59_1_j1 (fun y1 => xor_Fold_i59_1_j1_E0 K x.1.2.1 y1 x.2.1.1 x.2.1.2) k x.1.2.2.1 }
noncomputable def xor_Fold_i59_1_l2_E0 {R : Type} (K : EX → St → Option R) : Bool → List Int → Option R := fun v0 v1 => K (.exit 2) (mkSt 37 [1] xor_Fold_i59_1_x2.keep [] [.lst (.int .u8) 5 v0 1 v1])
noncomputable def xor_Fold_i59_1_l2_S (s_25 : ByteArray) (i_26 : Int) (toN_49 : Bool) (to_27 : List Int) : St := mkSt 37 [1] xor_Fold_i59_1_c2.keep [.own 0 1, .str s_25, .int .i64 i_26] [.lst (.int .u8) 5 toN_49 1 to_27]
noncomputable def xor_Fold_i59_1_l2_sh : Rd (List AV × List HE) := .pair (.cons (.own 0 1) (.cons .str (.cons (.int .i64) Rd.nil))) (.cons (.lst (.int .u8) 5 1) Rd.nil)
noncomputable def xor_Fold_i59_1_l2_a {R : Type} (k : Nat) : Alt R := { n := 37, v := [1], sh := xor_Fold_i59_1_l2_sh, g := fun K x => xor_Fold_i59_1_l2 (fun y1 => xor_Fold_i59_1_l2_E0 K x.2.1.1 y1) k x.1.2.1 k x.1.2.2.1 x.2.1.2 }
noncomputable def xor_Fold_i59_1_O {R : Type} (k : Nat) : CutK R := cutsO [[xor_Fold_i59_1_l0_a k], [xor_Fold_i59_1_j1_a k], [xor_Fold_i59_1_l2_a k]]
noncomputable def xor_Fold_i59_1_b : List Ob := obs (bodyOf Tryd.f59) xor_Fold_i59_1_h
noncomputable def xor_Fold_i76_1_c0 : Cl := { keep := [0, 1, 2, 7], hl := 1, ad := [], adc := [], bump := [] }
noncomputable def xor_Fold_i76_1_x0 : Cl := { keep := [], hl := 1, ad := [], adc := [], bump := [] }
noncomputable def xor_Fold_i76_1_c1 : Cl := { keep := [0, 1, 2, 6, 7], hl := 1, ad := [], adc := [], bump := [] }
noncomputable def xor_Fold_i76_1_x1 : Cl := { keep := [0, 1, 2, 7], hl := 1, ad := [], adc := [], bump := [] }
noncomputable def xor_Fold_i76_1_h : Hint := (.sq .no (.lp xor_Fold_i76_1_c0 xor_Fold_i76_1_x0 0 (.sq .no (.sq .no (.sq (.ct xor_Fold_i76_1_c1 xor_Fold_i76_1_x1 1 .no .no) .no)))))
noncomputable def xor_Fold_i76_1_l0_E0 {R : Type} (K : EX → St → Option R) : Bool → List Int → Option R := fun v0 v1 => K (.exit 0) (mkSt 24 [1] xor_Fold_i76_1_x0.keep [] [.lst (.int .u8) 5 v0 1 v1])
noncomputable def xor_Fold_i76_1_l0_S (at_11 : Int) (w_12 : Int) (v_13 : Int) (toN_50 : Bool) (to_14 : List Int) : St := mkSt 24 [1] xor_Fold_i76_1_c0.keep [.own 0 1, .int .i64 at_11, .int .u64 w_12, .int .i64 v_13] [.lst (.int .u8) 5 toN_50 1 to_14]
noncomputable def xor_Fold_i76_1_l0_sh : Rd (List AV × List HE) := .pair (.cons (.own 0 1) (.cons (.int .i64) (.cons (.int .u64) (.cons (.int .i64) Rd.nil)))) (.cons (.lst (.int .u8) 5 1) Rd.nil)
noncomputable def xor_Fold_i76_1_l0_a {R : Type} (k : Nat) : Alt R := { n := 24, v := [1], sh := xor_Fold_i76_1_l0_sh, g := fun K x => xor_Fold_i76_1_l0 (fun y1 => xor_Fold_i76_1_l0_E0 K x.2.1.1 y1) k x.1.2.1 x.1.2.2.1 k x.1.2.2.2.1 x.2.1.2 }
noncomputable def xor_Fold_i76_1_j1_E0 {R : Type} (K : EX → St → Option R) : Int → Int → Int → Bool → List Int → Option R := fun v0 v1 v2 v3 v4 => K .normal (mkSt 24 [1] xor_Fold_i76_1_x1.keep [.own 0 1, .int .i64 v0, .int .u64 v1, .int .i64 v2] [.lst (.int .u8) 5 v3 1 v4])
noncomputable def xor_Fold_i76_1_j1_S (at_5 : Int) (w_6 : Int) (k_7 : Int) (v_51 : Int) (toN_52 : Bool) (to_8 : List Int) : St := mkSt 24 [1] xor_Fold_i76_1_c1.keep [.own 0 1, .int .i64 at_5, .int .u64 w_6, .int .i64 k_7, .int .i64 v_51] [.lst (.int .u8) 5 toN_52 1 to_8]
noncomputable def xor_Fold_i76_1_j1_sh : Rd (List AV × List HE) := .pair (.cons (.own 0 1) (.cons (.int .i64) (.cons (.int .u64) (.cons (.int .i64) (.cons (.int .i64) Rd.nil))))) (.cons (.lst (.int .u8) 5 1) Rd.nil)
noncomputable def xor_Fold_i76_1_j1_a {R : Type} (k : Nat) : Alt R := { n := 24, v := [1], sh := xor_Fold_i76_1_j1_sh, g := fun K x => xor_Fold_i76_1_j1 (fun y4 => xor_Fold_i76_1_j1_E0 K x.1.2.1 x.1.2.2.1 x.1.2.2.2.2.1 x.2.1.1 y4) k x.1.2.1 x.1.2.2.1 x.1.2.2.2.1 x.2.1.2 }
noncomputable def xor_Fold_i76_1_O {R : Type} (k : Nat) : CutK R := cutsO [[xor_Fold_i76_1_l0_a k], [xor_Fold_i76_1_j1_a k]]
noncomputable def xor_Fold_i76_1_b : List Ob := obs (bodyOf Tryd.f76) xor_Fold_i76_1_h
noncomputable def xor_Fold_I {R : Type} (k : Nat) : InlT R := icons 59 1 (xor_Fold_i59_1_h, Tryd.f59, deepO 1 (xor_Fold_i59_1_O k)) <| icons 76 1 (xor_Fold_i76_1_h, Tryd.f76, deepO 0 (xor_Fold_i76_1_O k)) <| inone
theorem xor_Fold_l0_eq {R : Type} (k : Nat) (K : EX → St → Option R) (partsa_40 : Bool) (partsb_41 : List ByteArray) (va_42 : Bool) (vb_0 : List ByteArray) (v_1 : Int) : ∀ (j : Nat) (long_2 : Int) (v_3 : Int), xor_Fold_l0 (fun y2 => xor_Fold_l0_E0 K partsa_40 partsb_41 y2) k vb_0 v_1 j long_2 v_3 = iter xor_Fold_c0 xor_Fold_x0 (ev tab (xor_Fold_F k) (inlK tab (xor_Fold_F k) (xor_Fold_I k) 2) (xor_Fold_O k) (obB xor_Fold_b 0) (obH xor_Fold_b 0)) j (xor_Fold_l0_S partsa_40 partsb_41 long_2 va_42 vb_0 v_1 v_3) K
  | 0, _, _ => rfl
  | j + 1, long_2, v_3 => by
    have e : xor_Fold_l0 (fun y2 => xor_Fold_l0_E0 K partsa_40 partsb_41 y2) k vb_0 v_1 j = fun long_2 v_3 => iter xor_Fold_c0 xor_Fold_x0 (ev tab (xor_Fold_F k) (inlK tab (xor_Fold_F k) (xor_Fold_I k) 2) (xor_Fold_O k) (obB xor_Fold_b 0) (obH xor_Fold_b 0)) j (xor_Fold_l0_S partsa_40 partsb_41 long_2 va_42 vb_0 v_1 v_3) K := by funext long_2 v_3; exact xor_Fold_l0_eq k K partsa_40 partsb_41 va_42 vb_0 v_1 j long_2 v_3
    show xor_Fold_l0s (xor_Fold_l0 (fun y2 => xor_Fold_l0_E0 K partsa_40 partsb_41 y2) k vb_0 v_1 j) (fun y2 => xor_Fold_l0_E0 K partsa_40 partsb_41 y2) k vb_0 v_1 long_2 v_3 = _
    rw [e, iter_succ]; kernel_rfl
theorem xor_Fold_l0_ok {R : Type} (k : Nat)  : ObOK (R := R) tab (xor_Fold_F k) (inlK tab (xor_Fold_F k) (xor_Fold_I k) 2) (xor_Fold_O k) (.loop xor_Fold_c0 xor_Fold_x0 0 (obB xor_Fold_b 0) (obH xor_Fold_b 0)) :=
  loop_ok (l := [xor_Fold_l0_a k]) (by kernel_rfl) ⟨(fun K x => ⟨k, (xor_Fold_l0_eq k K x.1.1.1 x.1.1.2 x.1.2.2.1.1 x.1.2.2.1.2 x.1.2.2.2.1 k x.1.2.1 x.1.2.2.2.2.1).trans (by kernel_rfl)⟩), trivial⟩
theorem xor_Fold_l1_eq {R : Type} (k : Nat) (K : EX → St → Option R) (va_43 : Bool) (vb_30 : List ByteArray) (v_31 : Int) (outN_44 : Bool) : ∀ (j : Nat) (v_32 : Int) (out_33 : List Int), xor_Fold_l1 (fun y1 => xor_Fold_l1_E0 K outN_44 y1) k vb_30 v_31 j v_32 out_33 = iter xor_Fold_c1 xor_Fold_x1 (ev tab (xor_Fold_F k) (inlK tab (xor_Fold_F k) (xor_Fold_I k) 2) (xor_Fold_O k) (obB xor_Fold_b 1) (obH xor_Fold_b 1)) j (xor_Fold_l1_S va_43 vb_30 v_31 v_32 outN_44 out_33) K
  | 0, _, _ => rfl
  | j + 1, v_32, out_33 => by
    have e : xor_Fold_l1 (fun y1 => xor_Fold_l1_E0 K outN_44 y1) k vb_30 v_31 j = fun v_32 out_33 => iter xor_Fold_c1 xor_Fold_x1 (ev tab (xor_Fold_F k) (inlK tab (xor_Fold_F k) (xor_Fold_I k) 2) (xor_Fold_O k) (obB xor_Fold_b 1) (obH xor_Fold_b 1)) j (xor_Fold_l1_S va_43 vb_30 v_31 v_32 outN_44 out_33) K := by funext v_32 out_33; exact xor_Fold_l1_eq k K va_43 vb_30 v_31 outN_44 j v_32 out_33
    show xor_Fold_l1s (xor_Fold_l1 (fun y1 => xor_Fold_l1_E0 K outN_44 y1) k vb_30 v_31 j) (fun y1 => xor_Fold_l1_E0 K outN_44 y1) k vb_30 v_31 v_32 out_33 = _
    rw [e, iter_succ]; kernel_rfl
theorem xor_Fold_l1_ok {R : Type} (k : Nat)  : ObOK (R := R) tab (xor_Fold_F k) (inlK tab (xor_Fold_F k) (xor_Fold_I k) 2) (xor_Fold_O k) (.loop xor_Fold_c1 xor_Fold_x1 1 (obB xor_Fold_b 1) (obH xor_Fold_b 1)) :=
  loop_ok (l := [xor_Fold_l1_a k]) (by kernel_rfl) ⟨(fun K x => ⟨k, (xor_Fold_l1_eq k K x.1.2.1.1 x.1.2.1.2 x.1.2.2.1 x.2.1.1 k x.1.2.2.2.1 x.2.1.2).trans (by kernel_rfl)⟩), trivial⟩
theorem xor_Fold_cuts {R : Type} (k : Nat) : ∀ c, Tryd.f44.body = some c → CutsOK (R := R) tab (xor_Fold_F k) (inlK tab (xor_Fold_F k) (xor_Fold_I k) 2) (xor_Fold_O k) c xor_Fold_h :=
  cuts_of (l := [.loop xor_Fold_c0 xor_Fold_x0 0 (obB xor_Fold_b 0) (obH xor_Fold_b 0), .loop xor_Fold_c1 xor_Fold_x1 1 (obB xor_Fold_b 1) (obH xor_Fold_b 1)]) (by kernel_rfl) ⟨xor_Fold_l0_ok k, xor_Fold_l1_ok k, trivial⟩
theorem xor_Fold_i59_1_l0_eq {R : Type} (k : Nat) (d : Nat) (K : EX → St → Option R) (s_17 : ByteArray) (toN_45 : Bool) : ∀ (j : Nat) (i_18 : Int) (to_19 : List Int), xor_Fold_i59_1_l0 (fun y1 y3 => xor_Fold_i59_1_l0_E0 K s_17 y1 toN_45 y3) k s_17 j i_18 to_19 = iter xor_Fold_i59_1_c0 xor_Fold_i59_1_x0 (ev tab (xor_Fold_F k) (inlK tab (xor_Fold_F k) (xor_Fold_I k) (d + 1)) (deepO 1 (xor_Fold_i59_1_O k) (d + 1)) (obB xor_Fold_i59_1_b 0) (obH xor_Fold_i59_1_b 0)) j (xor_Fold_i59_1_l0_S s_17 i_18 toN_45 to_19) K
  | 0, _, _ => rfl
  | j + 1, i_18, to_19 => by
    have e : xor_Fold_i59_1_l0 (fun y1 y3 => xor_Fold_i59_1_l0_E0 K s_17 y1 toN_45 y3) k s_17 j = fun i_18 to_19 => iter xor_Fold_i59_1_c0 xor_Fold_i59_1_x0 (ev tab (xor_Fold_F k) (inlK tab (xor_Fold_F k) (xor_Fold_I k) (d + 1)) (deepO 1 (xor_Fold_i59_1_O k) (d + 1)) (obB xor_Fold_i59_1_b 0) (obH xor_Fold_i59_1_b 0)) j (xor_Fold_i59_1_l0_S s_17 i_18 toN_45 to_19) K := by funext i_18 to_19; exact xor_Fold_i59_1_l0_eq k d K s_17 toN_45 j i_18 to_19
    show xor_Fold_i59_1_l0s (xor_Fold_i59_1_l0 (fun y1 y3 => xor_Fold_i59_1_l0_E0 K s_17 y1 toN_45 y3) k s_17 j) (fun y1 y3 => xor_Fold_i59_1_l0_E0 K s_17 y1 toN_45 y3) k s_17 i_18 to_19 = _
    rw [e, iter_succ]; kernel_rfl
theorem xor_Fold_i59_1_l0_ok {R : Type} (k : Nat) (d : Nat)  : ObOK (R := R) tab (xor_Fold_F k) (inlK tab (xor_Fold_F k) (xor_Fold_I k) d) (deepO 1 (xor_Fold_i59_1_O k) d) (.loop xor_Fold_i59_1_c0 xor_Fold_i59_1_x0 0 (obB xor_Fold_i59_1_b 0) (obH xor_Fold_i59_1_b 0)) :=
  deep_ob fun hd => by
    obtain ⟨d, rfl⟩ := Nat.exists_eq_add_of_le' hd
    exact loop_ok (l := [xor_Fold_i59_1_l0_a k]) (by kernel_rfl) ⟨(fun K x => ⟨k, (xor_Fold_i59_1_l0_eq k d K x.1.2.1 x.2.1.1 k x.1.2.2.1 x.2.1.2).trans (by kernel_rfl)⟩), trivial⟩
theorem xor_Fold_i59_1_j1_eq {R : Type} (k : Nat) (d : Nat) (K : EX → St → Option R) (s_46 : ByteArray) (i_16 : Int) (toN_47 : Bool) (to_48 : List Int) : xor_Fold_i59_1_j1 (fun y1 => xor_Fold_i59_1_j1_E0 K s_46 y1 toN_47 to_48) k i_16 = ev tab (xor_Fold_F k) (inlK tab (xor_Fold_F k) (xor_Fold_I k) (d + 1)) (deepO 1 (xor_Fold_i59_1_O k) (d + 1)) (obB xor_Fold_i59_1_b 1) (obH xor_Fold_i59_1_b 1) (xor_Fold_i59_1_j1_S s_46 i_16 toN_47 to_48) (fun e st => optb (clean xor_Fold_i59_1_x1 st) fun st => K e st) := by kernel_rfl
theorem xor_Fold_i59_1_j1_ok {R : Type} (k : Nat) (d : Nat)  : ObOK (R := R) tab (xor_Fold_F k) (inlK tab (xor_Fold_F k) (xor_Fold_I k) d) (deepO 1 (xor_Fold_i59_1_O k) d) (.join xor_Fold_i59_1_c1 xor_Fold_i59_1_x1 1 (obB xor_Fold_i59_1_b 1) (obH xor_Fold_i59_1_b 1)) :=
  deep_ob fun hd => by
    obtain ⟨d, rfl⟩ := Nat.exists_eq_add_of_le' hd
    exact join_ok (l := [xor_Fold_i59_1_j1_a k]) (by kernel_rfl) ⟨(fun K x => (xor_Fold_i59_1_j1_eq k d K x.1.2.1 x.1.2.2.1 x.2.1.1 x.2.1.2).trans (by kernel_rfl)), trivial⟩
theorem xor_Fold_i59_1_l2_eq {R : Type} (k : Nat) (d : Nat) (K : EX → St → Option R) (s_25 : ByteArray) (toN_49 : Bool) : ∀ (j : Nat) (i_26 : Int) (to_27 : List Int), xor_Fold_i59_1_l2 (fun y1 => xor_Fold_i59_1_l2_E0 K toN_49 y1) k s_25 j i_26 to_27 = iter xor_Fold_i59_1_c2 xor_Fold_i59_1_x2 (ev tab (xor_Fold_F k) (inlK tab (xor_Fold_F k) (xor_Fold_I k) (d + 1)) (deepO 1 (xor_Fold_i59_1_O k) (d + 1)) (obB xor_Fold_i59_1_b 2) (obH xor_Fold_i59_1_b 2)) j (xor_Fold_i59_1_l2_S s_25 i_26 toN_49 to_27) K
  | 0, _, _ => rfl
  | j + 1, i_26, to_27 => by
    have e : xor_Fold_i59_1_l2 (fun y1 => xor_Fold_i59_1_l2_E0 K toN_49 y1) k s_25 j = fun i_26 to_27 => iter xor_Fold_i59_1_c2 xor_Fold_i59_1_x2 (ev tab (xor_Fold_F k) (inlK tab (xor_Fold_F k) (xor_Fold_I k) (d + 1)) (deepO 1 (xor_Fold_i59_1_O k) (d + 1)) (obB xor_Fold_i59_1_b 2) (obH xor_Fold_i59_1_b 2)) j (xor_Fold_i59_1_l2_S s_25 i_26 toN_49 to_27) K := by funext i_26 to_27; exact xor_Fold_i59_1_l2_eq k d K s_25 toN_49 j i_26 to_27
    show xor_Fold_i59_1_l2s (xor_Fold_i59_1_l2 (fun y1 => xor_Fold_i59_1_l2_E0 K toN_49 y1) k s_25 j) (fun y1 => xor_Fold_i59_1_l2_E0 K toN_49 y1) k s_25 i_26 to_27 = _
    rw [e, iter_succ]; kernel_rfl
theorem xor_Fold_i59_1_l2_ok {R : Type} (k : Nat) (d : Nat)  : ObOK (R := R) tab (xor_Fold_F k) (inlK tab (xor_Fold_F k) (xor_Fold_I k) d) (deepO 1 (xor_Fold_i59_1_O k) d) (.loop xor_Fold_i59_1_c2 xor_Fold_i59_1_x2 2 (obB xor_Fold_i59_1_b 2) (obH xor_Fold_i59_1_b 2)) :=
  deep_ob fun hd => by
    obtain ⟨d, rfl⟩ := Nat.exists_eq_add_of_le' hd
    exact loop_ok (l := [xor_Fold_i59_1_l2_a k]) (by kernel_rfl) ⟨(fun K x => ⟨k, (xor_Fold_i59_1_l2_eq k d K x.1.2.1 x.2.1.1 k x.1.2.2.1 x.2.1.2).trans (by kernel_rfl)⟩), trivial⟩
theorem xor_Fold_i59_1_cuts {R : Type} (k : Nat) : ∀ (d : Nat), ∀ c, Tryd.f59.body = some c → CutsOK (R := R) tab (xor_Fold_F k) (inlK tab (xor_Fold_F k) (xor_Fold_I k) d) (deepO 1 (xor_Fold_i59_1_O k) d) c xor_Fold_i59_1_h :=
  fun d => cuts_of (l := [.loop xor_Fold_i59_1_c0 xor_Fold_i59_1_x0 0 (obB xor_Fold_i59_1_b 0) (obH xor_Fold_i59_1_b 0), .join xor_Fold_i59_1_c1 xor_Fold_i59_1_x1 1 (obB xor_Fold_i59_1_b 1) (obH xor_Fold_i59_1_b 1), .loop xor_Fold_i59_1_c2 xor_Fold_i59_1_x2 2 (obB xor_Fold_i59_1_b 2) (obH xor_Fold_i59_1_b 2)]) (by kernel_rfl) ⟨xor_Fold_i59_1_l0_ok k d, xor_Fold_i59_1_j1_ok k d, xor_Fold_i59_1_l2_ok k d, trivial⟩
theorem xor_Fold_i76_1_l0_eq {R : Type} (k : Nat) (d : Nat) (K : EX → St → Option R) (at_11 : Int) (w_12 : Int) (toN_50 : Bool) : ∀ (j : Nat) (v_13 : Int) (to_14 : List Int), xor_Fold_i76_1_l0 (fun y1 => xor_Fold_i76_1_l0_E0 K toN_50 y1) k at_11 w_12 j v_13 to_14 = iter xor_Fold_i76_1_c0 xor_Fold_i76_1_x0 (ev tab (xor_Fold_F k) (inlK tab (xor_Fold_F k) (xor_Fold_I k) (d + 0)) (deepO 0 (xor_Fold_i76_1_O k) (d + 0)) (obB xor_Fold_i76_1_b 0) (obH xor_Fold_i76_1_b 0)) j (xor_Fold_i76_1_l0_S at_11 w_12 v_13 toN_50 to_14) K
  | 0, _, _ => rfl
  | j + 1, v_13, to_14 => by
    have e : xor_Fold_i76_1_l0 (fun y1 => xor_Fold_i76_1_l0_E0 K toN_50 y1) k at_11 w_12 j = fun v_13 to_14 => iter xor_Fold_i76_1_c0 xor_Fold_i76_1_x0 (ev tab (xor_Fold_F k) (inlK tab (xor_Fold_F k) (xor_Fold_I k) (d + 0)) (deepO 0 (xor_Fold_i76_1_O k) (d + 0)) (obB xor_Fold_i76_1_b 0) (obH xor_Fold_i76_1_b 0)) j (xor_Fold_i76_1_l0_S at_11 w_12 v_13 toN_50 to_14) K := by funext v_13 to_14; exact xor_Fold_i76_1_l0_eq k d K at_11 w_12 toN_50 j v_13 to_14
    show xor_Fold_i76_1_l0s (xor_Fold_i76_1_l0 (fun y1 => xor_Fold_i76_1_l0_E0 K toN_50 y1) k at_11 w_12 j) (fun y1 => xor_Fold_i76_1_l0_E0 K toN_50 y1) k at_11 w_12 v_13 to_14 = _
    rw [e, iter_succ]; kernel_rfl
theorem xor_Fold_i76_1_l0_ok {R : Type} (k : Nat) (d : Nat)  : ObOK (R := R) tab (xor_Fold_F k) (inlK tab (xor_Fold_F k) (xor_Fold_I k) d) (deepO 0 (xor_Fold_i76_1_O k) d) (.loop xor_Fold_i76_1_c0 xor_Fold_i76_1_x0 0 (obB xor_Fold_i76_1_b 0) (obH xor_Fold_i76_1_b 0)) :=
  deep_ob fun hd => by
    obtain ⟨d, rfl⟩ := Nat.exists_eq_add_of_le' hd
    exact loop_ok (l := [xor_Fold_i76_1_l0_a k]) (by kernel_rfl) ⟨(fun K x => ⟨k, (xor_Fold_i76_1_l0_eq k d K x.1.2.1 x.1.2.2.1 x.2.1.1 k x.1.2.2.2.1 x.2.1.2).trans (by kernel_rfl)⟩), trivial⟩
theorem xor_Fold_i76_1_j1_eq {R : Type} (k : Nat) (d : Nat) (K : EX → St → Option R) (at_5 : Int) (w_6 : Int) (k_7 : Int) (v_51 : Int) (toN_52 : Bool) (to_8 : List Int) : xor_Fold_i76_1_j1 (fun y4 => xor_Fold_i76_1_j1_E0 K at_5 w_6 v_51 toN_52 y4) k at_5 w_6 k_7 to_8 = ev tab (xor_Fold_F k) (inlK tab (xor_Fold_F k) (xor_Fold_I k) (d + 0)) (deepO 0 (xor_Fold_i76_1_O k) (d + 0)) (obB xor_Fold_i76_1_b 1) (obH xor_Fold_i76_1_b 1) (xor_Fold_i76_1_j1_S at_5 w_6 k_7 v_51 toN_52 to_8) (fun e st => optb (clean xor_Fold_i76_1_x1 st) fun st => K e st) := by kernel_rfl
theorem xor_Fold_i76_1_j1_ok {R : Type} (k : Nat) (d : Nat)  : ObOK (R := R) tab (xor_Fold_F k) (inlK tab (xor_Fold_F k) (xor_Fold_I k) d) (deepO 0 (xor_Fold_i76_1_O k) d) (.join xor_Fold_i76_1_c1 xor_Fold_i76_1_x1 1 (obB xor_Fold_i76_1_b 1) (obH xor_Fold_i76_1_b 1)) :=
  deep_ob fun hd => by
    obtain ⟨d, rfl⟩ := Nat.exists_eq_add_of_le' hd
    exact join_ok (l := [xor_Fold_i76_1_j1_a k]) (by kernel_rfl) ⟨(fun K x => (xor_Fold_i76_1_j1_eq k d K x.1.2.1 x.1.2.2.1 x.1.2.2.2.1 x.1.2.2.2.2.1 x.2.1.1 x.2.1.2).trans (by kernel_rfl)), trivial⟩
theorem xor_Fold_i76_1_cuts {R : Type} (k : Nat) : ∀ (d : Nat), ∀ c, Tryd.f76.body = some c → CutsOK (R := R) tab (xor_Fold_F k) (inlK tab (xor_Fold_F k) (xor_Fold_I k) d) (deepO 0 (xor_Fold_i76_1_O k) d) c xor_Fold_i76_1_h :=
  fun d => cuts_of (l := [.loop xor_Fold_i76_1_c0 xor_Fold_i76_1_x0 0 (obB xor_Fold_i76_1_b 0) (obH xor_Fold_i76_1_b 0), .join xor_Fold_i76_1_c1 xor_Fold_i76_1_x1 1 (obB xor_Fold_i76_1_b 1) (obH xor_Fold_i76_1_b 1)]) (by kernel_rfl) ⟨xor_Fold_i76_1_l0_ok k d, xor_Fold_i76_1_j1_ok k d, trivial⟩
theorem xor_Fold_iok {R : Type} (k : Nat) : IOK Tryd.prog tab (xor_Fold_F k) (xor_Fold_I (R := R) k) := iok_cons Tryd.func59 Tryd.call59 (xor_Fold_i59_1_cuts k) <| iok_cons Tryd.func76 Tryd.call76 (xor_Fold_i76_1_cuts k) <| iok_none
theorem xor_Fold_ev (k : Nat) (x : (xor_Fold_p k).τ.den) : evalF tab (xor_Fold_F k) (xor_Fold_p k) (xor_Fold_I k) 2 (xor_Fold_O k) xor_Fold_h Tryd.f44 x = (xor_Fold_p k).f x := by kernel_rfl
theorem xor_Fold_ok (k : Nat) : PFOK Tryd.prog tab 44 (xor_Fold_p k) := pfok mixed tabOK (xor_Fold_fok k) Tryd.func44 (I := xor_Fold_I k) (d := 2) (xor_Fold_iok k) (Q := xor_Fold_O k) (hi := xor_Fold_h) (xor_Fold_cuts k) (xor_Fold_ev k)
end Go.Proofs.YtibdnfknokkadaaDoor.Ev

/- xor_Add, told on plain data. Written by program. -/
set_option linter.unusedVariables false
set_option maxRecDepth 1000000
namespace Go.Proofs.YtibdnfknokkadaaDoor.Ev
open Go Go.RowKit Go.Proofs
noncomputable def xor_Add (k : Nat) (a_419 : ByteArray) (b_420 : ByteArray) : Option ByteArray :=
  optb (xor_Fold k false ([a_419, b_420] : List ByteArray)) fun r_0 =>
  some r_0
noncomputable def xor_Add_p (k : Nat) : PF := { ps := [(false, 1), (false, 1)], rs := [(false, 1)], τ := (.pair .str .str), σ := .str, f := fun x => xor_Add k x.1 x.2 }
noncomputable def xor_Add_F (k : Nat) : PT := fcons 44 (xor_Fold_p k) <| fnone
theorem xor_Add_fok (k : Nat) : FOK Tryd.prog tab (xor_Add_F k) := fok_cons (xor_Fold_ok k) Tryd.call44 <| fok_none
noncomputable def xor_Add_h : Hint := .no
noncomputable def xor_Add_O {R : Type} (k : Nat) : CutK R := cutsO []
noncomputable def xor_Add_I {R : Type} (k : Nat) : InlT R := inone
theorem xor_Add_iok {R : Type} (k : Nat) : IOK Tryd.prog tab (xor_Add_F k) (xor_Add_I (R := R) k) := iok_none
theorem xor_Add_ev (k : Nat) (x : (xor_Add_p k).τ.den) : evalF tab (xor_Add_F k) (xor_Add_p k) (xor_Add_I k) 0 (xor_Add_O k) xor_Add_h Tryd.f23 x = (xor_Add_p k).f x := by kernel_rfl
theorem xor_Add_ok (k : Nat) : PFOK Tryd.prog tab 23 (xor_Add_p k) := pfok mixed tabOK (xor_Add_fok k) Tryd.func23 (I := xor_Add_I k) (d := 0) (xor_Add_iok k) (Q := xor_Add_O k) (hi := xor_Add_h) (cuts_of (l := []) (by kernel_rfl) trivial) (xor_Add_ev k)
end Go.Proofs.YtibdnfknokkadaaDoor.Ev

/- corbeltop_places, told on plain data. Written by program. -/
set_option linter.unusedVariables false
set_option maxRecDepth 1000000
namespace Go.Proofs.YtibdnfknokkadaaDoor.Ev
open Go Go.RowKit Go.Proofs
noncomputable def corbeltop_places (k : Nat)  : Option Bool :=
  optb (geom_Place k (3 : Int) (5 : Int) (4 : Int) (1 : Int) (1 : Int) (0 : Int) (1 : Int)) fun r_416 =>
  optb (corbeltop_sums k) fun r_0 =>
  bif r_0 then
    bif r_416.2.2 then
      bif (decide (r_416.1 = (0 : Int))) then
        bif (decide (r_416.2.1 = (2 : Int))) then
          optb (geom_Parity k (3 : Int) (5 : Int) (4 : Int) (1 : Int) (1 : Int) (0 : Int) (0 : Int)) fun r_1 =>
          bif (decide (r_1 = (0 : Int))) then
            optb (xor_Add k (⟨#[97]⟩ : ByteArray) (⟨#[97]⟩ : ByteArray)) fun r_2 =>
            some (decide (r_2 = (⟨#[0]⟩ : ByteArray)))
          else some false
        else some false
      else some false
    else some false
  else some false
noncomputable def corbeltop_places_p (k : Nat) : PF := { ps := [], rs := [(false, 1)], τ := .bool, σ := .bool, f := fun x => corbeltop_places k }
noncomputable def corbeltop_places_F (k : Nat) : PT := fcons 20 (geom_Place_p k) <| fcons 21 (corbeltop_sums_p k) <| fcons 22 (geom_Parity_p k) <| fcons 23 (xor_Add_p k) <| fnone
theorem corbeltop_places_fok (k : Nat) : FOK Tryd.prog tab (corbeltop_places_F k) := fok_cons (geom_Place_ok k) Tryd.call20 <| fok_cons (corbeltop_sums_ok k) Tryd.call21 <| fok_cons (geom_Parity_ok k) Tryd.call22 <| fok_cons (xor_Add_ok k) Tryd.call23 <| fok_none
noncomputable def corbeltop_places_h : Hint := .no
noncomputable def corbeltop_places_O {R : Type} (k : Nat) : CutK R := cutsO []
noncomputable def corbeltop_places_I {R : Type} (k : Nat) : InlT R := inone
theorem corbeltop_places_iok {R : Type} (k : Nat) : IOK Tryd.prog tab (corbeltop_places_F k) (corbeltop_places_I (R := R) k) := iok_none
theorem corbeltop_places_ev (k : Nat) (x : (corbeltop_places_p k).τ.den) : evalF tab (corbeltop_places_F k) (corbeltop_places_p k) (corbeltop_places_I k) 0 (corbeltop_places_O k) corbeltop_places_h Tryd.f11 x = (corbeltop_places_p k).f x := by kernel_rfl
theorem corbeltop_places_ok (k : Nat) : PFOK Tryd.prog tab 11 (corbeltop_places_p k) := pfok mixed tabOK (corbeltop_places_fok k) Tryd.func11 (I := corbeltop_places_I k) (d := 0) (corbeltop_places_iok k) (Q := corbeltop_places_O k) (hi := corbeltop_places_h) (cuts_of (l := []) (by kernel_rfl) trivial) (corbeltop_places_ev k)
end Go.Proofs.YtibdnfknokkadaaDoor.Ev

/- zone_span, told on plain data. Written by program. -/
set_option linter.unusedVariables false
set_option maxRecDepth 1000000
namespace Go.Proofs.YtibdnfknokkadaaDoor.Ev
open Go Go.RowKit Go.Proofs
noncomputable def zone_span (k : Nat) (at_0 : Int) (n_1 : Int) (blocks_2 : Int) : Option Bool :=
  bif (decide ((0 : Int) ≤ at_0)) then
    bif (decide ((1 : Int) ≤ n_1)) then
      bif (decide (at_0 ≤ blocks_2)) then
        some (decide (n_1 ≤ (wrap64 (blocks_2 - at_0))))
      else some false
    else some false
  else some false
noncomputable def zone_span_p (k : Nat) : PF := { ps := [(false, 1), (false, 1), (false, 1)], rs := [(false, 1)], τ := (.pair (.int .i64) (.pair (.int .i64) (.int .i64))), σ := .bool, f := fun x => zone_span k x.1 x.2.1 x.2.2 }
noncomputable def zone_span_F (k : Nat) : PT := fnone
theorem zone_span_fok (k : Nat) : FOK Tryd.prog tab (zone_span_F k) := fok_none
noncomputable def zone_span_h : Hint := .no
noncomputable def zone_span_O {R : Type} (k : Nat) : CutK R := cutsO []
noncomputable def zone_span_I {R : Type} (k : Nat) : InlT R := inone
theorem zone_span_iok {R : Type} (k : Nat) : IOK Tryd.prog tab (zone_span_F k) (zone_span_I (R := R) k) := iok_none
theorem zone_span_ev (k : Nat) (x : (zone_span_p k).τ.den) : evalF tab (zone_span_F k) (zone_span_p k) (zone_span_I k) 0 (zone_span_O k) zone_span_h Tryd.f51 x = (zone_span_p k).f x := by kernel_rfl
theorem zone_span_ok (k : Nat) : PFOK Tryd.prog tab 51 (zone_span_p k) := pfok mixed tabOK (zone_span_fok k) Tryd.func51 (I := zone_span_I k) (d := 0) (zone_span_iok k) (Q := zone_span_O k) (hi := zone_span_h) (cuts_of (l := []) (by kernel_rfl) trivial) (zone_span_ev k)
end Go.Proofs.YtibdnfknokkadaaDoor.Ev

/- zone_opened, told on plain data. Written by program. -/
set_option linter.unusedVariables false
set_option maxRecDepth 1000000
namespace Go.Proofs.YtibdnfknokkadaaDoor.Ev
open Go Go.RowKit Go.Proofs
noncomputable def zone_opened (k : Nat) (s_0 : Int) : Option Bool :=
  bif (decide (s_0 = (1 : Int))) then
    some true
  else some (decide (s_0 = (2 : Int)))
noncomputable def zone_opened_p (k : Nat) : PF := { ps := [(false, 1)], rs := [(false, 1)], τ := (.int .i64), σ := .bool, f := fun x => zone_opened k x }
noncomputable def zone_opened_F (k : Nat) : PT := fnone
theorem zone_opened_fok (k : Nat) : FOK Tryd.prog tab (zone_opened_F k) := fok_none
noncomputable def zone_opened_h : Hint := .no
noncomputable def zone_opened_O {R : Type} (k : Nat) : CutK R := cutsO []
noncomputable def zone_opened_I {R : Type} (k : Nat) : InlT R := inone
theorem zone_opened_iok {R : Type} (k : Nat) : IOK Tryd.prog tab (zone_opened_F k) (zone_opened_I (R := R) k) := iok_none
theorem zone_opened_ev (k : Nat) (x : (zone_opened_p k).τ.den) : evalF tab (zone_opened_F k) (zone_opened_p k) (zone_opened_I k) 0 (zone_opened_O k) zone_opened_h Tryd.f54 x = (zone_opened_p k).f x := by kernel_rfl
theorem zone_opened_ok (k : Nat) : PFOK Tryd.prog tab 54 (zone_opened_p k) := pfok mixed tabOK (zone_opened_fok k) Tryd.func54 (I := zone_opened_I k) (d := 0) (zone_opened_iok k) (Q := zone_opened_O k) (hi := zone_opened_h) (cuts_of (l := []) (by kernel_rfl) trivial) (zone_opened_ev k)
end Go.Proofs.YtibdnfknokkadaaDoor.Ev

/- zone_Machine_enter_1, told on plain data. Written by program. -/
set_option linter.unusedVariables false
set_option maxRecDepth 1000000
namespace Go.Proofs.YtibdnfknokkadaaDoor.Ev
open Go Go.RowKit Go.Proofs
noncomputable def zone_Machine_enter_1 (k : Nat) (oa_0 : Int) (ob_1 : Int) : Option Bool :=
  some (decide (oa_0 = (1 : Int)))
noncomputable def zone_Machine_enter_1_p (k : Nat) : PF := { ps := [(true, 2)], rs := [(false, 1)], τ := (.pair (.int .i64) (.int .i64)), σ := .bool, f := fun x => zone_Machine_enter_1 k x.1 x.2 }
noncomputable def zone_Machine_enter_1_F (k : Nat) : PT := fnone
theorem zone_Machine_enter_1_fok (k : Nat) : FOK Tryd.prog tab (zone_Machine_enter_1_F k) := fok_none
noncomputable def zone_Machine_enter_1_h : Hint := .no
noncomputable def zone_Machine_enter_1_O {R : Type} (k : Nat) : CutK R := cutsO []
noncomputable def zone_Machine_enter_1_I {R : Type} (k : Nat) : InlT R := inone
theorem zone_Machine_enter_1_iok {R : Type} (k : Nat) : IOK Tryd.prog tab (zone_Machine_enter_1_F k) (zone_Machine_enter_1_I (R := R) k) := iok_none
theorem zone_Machine_enter_1_ev (k : Nat) (x : (zone_Machine_enter_1_p k).τ.den) : evalF tab (zone_Machine_enter_1_F k) (zone_Machine_enter_1_p k) (zone_Machine_enter_1_I k) 0 (zone_Machine_enter_1_O k) zone_Machine_enter_1_h Tryd.f67 x = (zone_Machine_enter_1_p k).f x := by kernel_rfl
theorem zone_Machine_enter_1_ok (k : Nat) : PFOK Tryd.prog tab 67 (zone_Machine_enter_1_p k) := pfok mixed tabOK (zone_Machine_enter_1_fok k) Tryd.func67 (I := zone_Machine_enter_1_I k) (d := 0) (zone_Machine_enter_1_iok k) (Q := zone_Machine_enter_1_O k) (hi := zone_Machine_enter_1_h) (cuts_of (l := []) (by kernel_rfl) trivial) (zone_Machine_enter_1_ev k)
end Go.Proofs.YtibdnfknokkadaaDoor.Ev

/- zone_rest, told on plain data. Written by program. -/
set_option linter.unusedVariables false
set_option maxRecDepth 1000000
namespace Go.Proofs.YtibdnfknokkadaaDoor.Ev
open Go Go.RowKit Go.Proofs
noncomputable def zone_rest (k : Nat) (length_0 : Int) : Option Int :=
  bif (decide (length_0 = (0 : Int))) then
    some (0 : Int)
  else some (3 : Int)
noncomputable def zone_rest_p (k : Nat) : PF := { ps := [(false, 1)], rs := [(false, 1)], τ := (.int .i64), σ := (.int .i64), f := fun x => zone_rest k x }
noncomputable def zone_rest_F (k : Nat) : PT := fnone
theorem zone_rest_fok (k : Nat) : FOK Tryd.prog tab (zone_rest_F k) := fok_none
noncomputable def zone_rest_h : Hint := .no
noncomputable def zone_rest_O {R : Type} (k : Nat) : CutK R := cutsO []
noncomputable def zone_rest_I {R : Type} (k : Nat) : InlT R := inone
theorem zone_rest_iok {R : Type} (k : Nat) : IOK Tryd.prog tab (zone_rest_F k) (zone_rest_I (R := R) k) := iok_none
theorem zone_rest_ev (k : Nat) (x : (zone_rest_p k).τ.den) : evalF tab (zone_rest_F k) (zone_rest_p k) (zone_rest_I k) 0 (zone_rest_O k) zone_rest_h Tryd.f55 x = (zone_rest_p k).f x := by kernel_rfl
theorem zone_rest_ok (k : Nat) : PFOK Tryd.prog tab 55 (zone_rest_p k) := pfok mixed tabOK (zone_rest_fok k) Tryd.func55 (I := zone_rest_I k) (d := 0) (zone_rest_iok k) (Q := zone_rest_O k) (hi := zone_rest_h) (cuts_of (l := []) (by kernel_rfl) trivial) (zone_rest_ev k)
end Go.Proofs.YtibdnfknokkadaaDoor.Ev
