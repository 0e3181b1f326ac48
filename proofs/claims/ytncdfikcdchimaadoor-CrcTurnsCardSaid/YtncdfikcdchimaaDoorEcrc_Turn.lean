/- crc_Turn, told on plain data. Written by program. -/
import Derived.Test.YtncdfikcdchimaaDoorEcrc_step
set_option linter.unusedVariables false
set_option maxRecDepth 1000000
namespace Go.Proofs.YtncdfikcdchimaaDoor.Ev
open Go Go.RowKit Go.Proofs
def crc_Turn_j0 {R : Type} (e0 : Int → Option R) (e1 : Option R) (k : Nat) (v_80 : Bool) : Option R :=
  bif v_80 then
    e0 (0 : Int)
  else e1
def crc_Turn_l1s {R : Type} (rc : Int → Int → Option R) (e0 : Int → Option R) (k : Nat) (v_88 : Int) (c_87 : Int) (v_89 : Int) : Option R :=
  bif (decide (v_89 < v_88)) then
    optb (crc_step k c_87) fun r_91 =>
    rc r_91 (wrap64 (v_89 + (1 : Int)))
  else e0 c_87
def crc_Turn_l1 {R : Type} (e0 : Int → Option R) (k : Nat) (v_88 : Int) : Nat → Int → Int → Option R
  | 0 => fun _ _ => none
  | j + 1 => crc_Turn_l1s (crc_Turn_l1 e0 k v_88 j) e0 k v_88
def crc_Turn_k0 (k : Nat) : Int → Option Int := fun v_83 =>
  some v_83
def crc_Turn_k1 (k : Nat) (behind_76 : Int) (by_77 : Int) : Option Int := 
  optb (crc_step k (IntKind.u32.wrap by_77)) fun r_86 =>
  crc_Turn_l1 (fun c_92 =>
    some c_92) k behind_76 k r_86 (0 : Int)
def crc_Turn (k : Nat) (behind_76 : Int) (by_77 : Int) : Option Int :=
  bif (decide (behind_76 < (0 : Int))) then
    crc_Turn_j0 (crc_Turn_k0 k) (crc_Turn_k1 k behind_76 by_77) k true
  else crc_Turn_j0 (crc_Turn_k0 k) (crc_Turn_k1 k behind_76 by_77) k (decide ((65536 : Int) < behind_76))
def crc_Turn_p (k : Nat) : PF := { ps := [(false, 1), (false, 1)], rs := [(false, 1)], τ := (.pair (.int .i64) (.int .u8)), σ := (.int .u32), f := fun x => crc_Turn k x.1 x.2 }
def crc_Turn_F (k : Nat) : PT := fcons 12 (crc_step_p k) <| fnone
theorem crc_Turn_fok (k : Nat) : FOK Tryd.prog tab (crc_Turn_F k) := fok_cons (crc_step_ok k) Tryd.call12 <| fok_none
def crc_Turn_c0 : Cl := { keep := [0, 1, 11], hl := 0, ad := [], adc := [], bump := [] }
def crc_Turn_x0 : Cl := { keep := [0, 1, 4], hl := 0, ad := [], adc := [], bump := [] }
def crc_Turn_c1 : Cl := { keep := [5, 15, 16], hl := 0, ad := [], adc := [], bump := [] }
def crc_Turn_x1 : Cl := { keep := [5], hl := 0, ad := [], adc := [], bump := [] }
def crc_Turn_h : Hint := (.sq .no (.sq (.ct crc_Turn_c0 crc_Turn_x0 0 .no .no) (.sq .no (.sq (.sq .no (.lp crc_Turn_c1 crc_Turn_x1 1 .no)) .no))))
def crc_Turn_j0_E0 {R : Type} (K : EX → St → Option R) : Int → Int → Int → Option R := fun v0 v1 v2 => K .ret (mkSt 22 [] crc_Turn_x0.keep [.int .i64 v0, .int .u8 v1, .int .u32 v2] [])
def crc_Turn_j0_E1 {R : Type} (K : EX → St → Option R) : Int → Int → Option R := fun v0 v1 => K .normal (mkSt 22 [] crc_Turn_x0.keep [.int .i64 v0, .int .u8 v1, .junk] [])
def crc_Turn_j0_S (behind_78 : Int) (by_79 : Int) (v_80 : Bool) : St := mkSt 22 [] crc_Turn_c0.keep [.int .i64 behind_78, .int .u8 by_79, .bool v_80] []
def crc_Turn_j0_sh : Rd (List AV × List HE) := .pair (.cons (.int .i64) (.cons (.int .u8) (.cons .bool Rd.nil))) Rd.nil
def crc_Turn_j0_a {R : Type} (k : Nat) : Alt R := { n := 22, v := [], sh := crc_Turn_j0_sh, g := fun K x => crc_Turn_j0 (fun y2 => crc_Turn_j0_E0 K x.1.1 x.1.2.1 y2) (crc_Turn_j0_E1 K x.1.1 x.1.2.1) k x.1.2.2.1 }
def crc_Turn_l1_E0 {R : Type} (K : EX → St → Option R) : Int → Option R := fun v0 => K (.exit 0) (mkSt 22 [] crc_Turn_x1.keep [.int .u32 v0] [])
def crc_Turn_l1_S (c_87 : Int) (v_88 : Int) (v_89 : Int) : St := mkSt 22 [] crc_Turn_c1.keep [.int .u32 c_87, .int .i64 v_88, .int .i64 v_89] []
def crc_Turn_l1_sh : Rd (List AV × List HE) := .pair (.cons (.int .u32) (.cons (.int .i64) (.cons (.int .i64) Rd.nil))) Rd.nil
def crc_Turn_l1_a {R : Type} (k : Nat) : Alt R := { n := 22, v := [], sh := crc_Turn_l1_sh, g := fun K x => crc_Turn_l1 (crc_Turn_l1_E0 K) k x.1.2.1 k x.1.1 x.1.2.2.1 }
def crc_Turn_O {R : Type} (k : Nat) : CutK R := cutsO [[crc_Turn_j0_a k], [crc_Turn_l1_a k]]
noncomputable def crc_Turn_b : List Ob := obs (bodyOf Tryd.f11) crc_Turn_h
noncomputable def crc_Turn_I {R : Type} (k : Nat) : InlT R := inone
theorem crc_Turn_j0_eq {R : Type} (k : Nat) (K : EX → St → Option R) (behind_78 : Int) (by_79 : Int) (v_80 : Bool) : crc_Turn_j0 (fun y2 => crc_Turn_j0_E0 K behind_78 by_79 y2) (crc_Turn_j0_E1 K behind_78 by_79) k v_80 = ev tab (crc_Turn_F k) (inlK tab (crc_Turn_F k) (crc_Turn_I k) 0) (crc_Turn_O k) (obB crc_Turn_b 0) (obH crc_Turn_b 0) (crc_Turn_j0_S behind_78 by_79 v_80) (fun e st => optb (clean crc_Turn_x0 st) fun st => K e st) := by kernel_rfl
theorem crc_Turn_j0_ok {R : Type} (k : Nat)  : ObOK (R := R) tab (crc_Turn_F k) (inlK tab (crc_Turn_F k) (crc_Turn_I k) 0) (crc_Turn_O k) (.join crc_Turn_c0 crc_Turn_x0 0 (obB crc_Turn_b 0) (obH crc_Turn_b 0)) :=
  join_ok (l := [crc_Turn_j0_a k]) (by kernel_rfl) ⟨(fun K x => (crc_Turn_j0_eq k K x.1.1 x.1.2.1 x.1.2.2.1).trans (by kernel_rfl)), trivial⟩
theorem crc_Turn_l1_eq {R : Type} (k : Nat) (K : EX → St → Option R) (v_88 : Int) : ∀ (j : Nat) (c_87 : Int) (v_89 : Int), crc_Turn_l1 (crc_Turn_l1_E0 K) k v_88 j c_87 v_89 = iter crc_Turn_c1 crc_Turn_x1 (ev tab (crc_Turn_F k) (inlK tab (crc_Turn_F k) (crc_Turn_I k) 0) (crc_Turn_O k) (obB crc_Turn_b 1) (obH crc_Turn_b 1)) j (crc_Turn_l1_S c_87 v_88 v_89) K
  | 0, _, _ => rfl
  | j + 1, c_87, v_89 => by
    have e : crc_Turn_l1 (crc_Turn_l1_E0 K) k v_88 j = fun c_87 v_89 => iter crc_Turn_c1 crc_Turn_x1 (ev tab (crc_Turn_F k) (inlK tab (crc_Turn_F k) (crc_Turn_I k) 0) (crc_Turn_O k) (obB crc_Turn_b 1) (obH crc_Turn_b 1)) j (crc_Turn_l1_S c_87 v_88 v_89) K := by funext c_87 v_89; exact crc_Turn_l1_eq k K v_88 j c_87 v_89
    show crc_Turn_l1s (crc_Turn_l1 (crc_Turn_l1_E0 K) k v_88 j) (crc_Turn_l1_E0 K) k v_88 c_87 v_89 = _
    rw [e, iter_succ]; kernel_rfl
theorem crc_Turn_l1_ok {R : Type} (k : Nat)  : ObOK (R := R) tab (crc_Turn_F k) (inlK tab (crc_Turn_F k) (crc_Turn_I k) 0) (crc_Turn_O k) (.loop crc_Turn_c1 crc_Turn_x1 1 (obB crc_Turn_b 1) (obH crc_Turn_b 1)) :=
  loop_ok (l := [crc_Turn_l1_a k]) (by kernel_rfl) ⟨(fun K x => ⟨k, (crc_Turn_l1_eq k K x.1.2.1 k x.1.1 x.1.2.2.1).trans (by kernel_rfl)⟩), trivial⟩
theorem crc_Turn_cuts {R : Type} (k : Nat) : ∀ c, Tryd.f11.body = some c → CutsOK (R := R) tab (crc_Turn_F k) (inlK tab (crc_Turn_F k) (crc_Turn_I k) 0) (crc_Turn_O k) c crc_Turn_h :=
  cuts_of (l := [.join crc_Turn_c0 crc_Turn_x0 0 (obB crc_Turn_b 0) (obH crc_Turn_b 0), .loop crc_Turn_c1 crc_Turn_x1 1 (obB crc_Turn_b 1) (obH crc_Turn_b 1)]) (by kernel_rfl) ⟨crc_Turn_j0_ok k, crc_Turn_l1_ok k, trivial⟩
theorem crc_Turn_iok {R : Type} (k : Nat) : IOK Tryd.prog tab (crc_Turn_F k) (crc_Turn_I (R := R) k) := iok_none
theorem crc_Turn_ev (k : Nat) (x : (crc_Turn_p k).τ.den) : evalF tab (crc_Turn_F k) (crc_Turn_p k) (crc_Turn_I k) 0 (crc_Turn_O k) crc_Turn_h Tryd.f11 x = (crc_Turn_p k).f x := by kernel_rfl
theorem crc_Turn_ok (k : Nat) : PFOK Tryd.prog tab 11 (crc_Turn_p k) := pfok mixed tabOK (crc_Turn_fok k) Tryd.func11 (I := crc_Turn_I k) (d := 0) (crc_Turn_iok k) (Q := crc_Turn_O k) (hi := crc_Turn_h) (crc_Turn_cuts k) (crc_Turn_ev k)
end Go.Proofs.YtncdfikcdchimaaDoor.Ev
