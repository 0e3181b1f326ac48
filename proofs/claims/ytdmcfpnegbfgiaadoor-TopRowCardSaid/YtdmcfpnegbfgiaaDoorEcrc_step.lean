/- crc_step, told on plain data. Written by program. -/
import Derived.Test.YtdmcfpnegbfgiaaDoorEtab
set_option linter.unusedVariables false
set_option maxRecDepth 1000000
namespace Go.Proofs.YtdmcfpnegbfgiaaDoor.Ev
open Go Go.RowKit Go.Proofs
def crc_step_j1 {R : Type} (e0 : Int → Option R) (k : Nat) (v_293 : Int) : Option R :=
  e0 (wrap64 (v_293 + (1 : Int)))
def crc_step_k0 {R : Type} (rc : Int → Int → Option R) (e0 : Int → Option R) (k : Nat) : Int → Int → Option R := fun c_294 v_295 =>
  rc c_294 v_295
def crc_step_l0s {R : Type} (rc : Int → Int → Option R) (e0 : Int → Option R) (k : Nat) (c_273 : Int) (v_274 : Int) : Option R :=
  bif (decide (v_274 < (2 : Int))) then
    bif (decide ((bitop .and .u32 c_273 (15 : Int)) = (0 : Int))) then
      crc_step_j1 (fun v_295 => crc_step_k0 rc e0 k (bitop .xor .u32 (shrv .u32 c_273 (4 : Int)) (0 : Int)) v_295) k v_274
    else bif (decide ((bitop .and .u32 c_273 (15 : Int)) = (1 : Int))) then
      crc_step_j1 (fun v_295 => crc_step_k0 rc e0 k (bitop .xor .u32 (shrv .u32 c_273 (4 : Int)) (274646895 : Int)) v_295) k v_274
    else bif (decide ((bitop .and .u32 c_273 (15 : Int)) = (2 : Int))) then
      crc_step_j1 (fun v_295 => crc_step_k0 rc e0 k (bitop .xor .u32 (shrv .u32 c_273 (4 : Int)) (549293790 : Int)) v_295) k v_274
    else bif (decide ((bitop .and .u32 c_273 (15 : Int)) = (3 : Int))) then
      crc_step_j1 (fun v_295 => crc_step_k0 rc e0 k (bitop .xor .u32 (shrv .u32 c_273 (4 : Int)) (820201905 : Int)) v_295) k v_274
    else bif (decide ((bitop .and .u32 c_273 (15 : Int)) = (4 : Int))) then
      crc_step_j1 (fun v_295 => crc_step_k0 rc e0 k (bitop .xor .u32 (shrv .u32 c_273 (4 : Int)) (1098587580 : Int)) v_295) k v_274
    else bif (decide ((bitop .and .u32 c_273 (15 : Int)) = (5 : Int))) then
      crc_step_j1 (fun v_295 => crc_step_k0 rc e0 k (bitop .xor .u32 (shrv .u32 c_273 (4 : Int)) (1361435347 : Int)) v_295) k v_274
    else bif (decide ((bitop .and .u32 c_273 (15 : Int)) = (6 : Int))) then
      crc_step_j1 (fun v_295 => crc_step_k0 rc e0 k (bitop .xor .u32 (shrv .u32 c_273 (4 : Int)) (1640403810 : Int)) v_295) k v_274
    else bif (decide ((bitop .and .u32 c_273 (15 : Int)) = (7 : Int))) then
      crc_step_j1 (fun v_295 => crc_step_k0 rc e0 k (bitop .xor .u32 (shrv .u32 c_273 (4 : Int)) (1905808397 : Int)) v_295) k v_274
    else bif (decide ((bitop .and .u32 c_273 (15 : Int)) = (8 : Int))) then
      crc_step_j1 (fun v_295 => crc_step_k0 rc e0 k (bitop .xor .u32 (shrv .u32 c_273 (4 : Int)) (2197175160 : Int)) v_295) k v_274
    else bif (decide ((bitop .and .u32 c_273 (15 : Int)) = (9 : Int))) then
      crc_step_j1 (fun v_295 => crc_step_k0 rc e0 k (bitop .xor .u32 (shrv .u32 c_273 (4 : Int)) (2460548119 : Int)) v_295) k v_274
    else bif (decide ((bitop .and .u32 c_273 (15 : Int)) = (10 : Int))) then
      crc_step_j1 (fun v_295 => crc_step_k0 rc e0 k (bitop .xor .u32 (shrv .u32 c_273 (4 : Int)) (2722870694 : Int)) v_295) k v_274
    else bif (decide ((bitop .and .u32 c_273 (15 : Int)) = (11 : Int))) then
      crc_step_j1 (fun v_295 => crc_step_k0 rc e0 k (bitop .xor .u32 (shrv .u32 c_273 (4 : Int)) (2987750089 : Int)) v_295) k v_274
    else bif (decide ((bitop .and .u32 c_273 (15 : Int)) = (12 : Int))) then
      crc_step_j1 (fun v_295 => crc_step_k0 rc e0 k (bitop .xor .u32 (shrv .u32 c_273 (4 : Int)) (3280807620 : Int)) v_295) k v_274
    else bif (decide ((bitop .and .u32 c_273 (15 : Int)) = (13 : Int))) then
      crc_step_j1 (fun v_295 => crc_step_k0 rc e0 k (bitop .xor .u32 (shrv .u32 c_273 (4 : Int)) (3553878443 : Int)) v_295) k v_274
    else bif (decide ((bitop .and .u32 c_273 (15 : Int)) = (14 : Int))) then
      crc_step_j1 (fun v_295 => crc_step_k0 rc e0 k (bitop .xor .u32 (shrv .u32 c_273 (4 : Int)) (3811616794 : Int)) v_295) k v_274
    else bif (decide ((bitop .and .u32 c_273 (15 : Int)) = (15 : Int))) then
      crc_step_j1 (fun v_295 => crc_step_k0 rc e0 k (bitop .xor .u32 (shrv .u32 c_273 (4 : Int)) (4084100981 : Int)) v_295) k v_274
    else none
  else e0 c_273
def crc_step_l0 {R : Type} (e0 : Int → Option R) (k : Nat) : Nat → Int → Int → Option R
  | 0 => fun _ _ => none
  | j + 1 => crc_step_l0s (crc_step_l0 e0 k j) e0 k
def crc_step (k : Nat) (c_272 : Int) : Option Int :=
  crc_step_l0 (fun c_311 =>
    some c_311) k k c_272 (0 : Int)
def crc_step_p (k : Nat) : PF := { ps := [(false, 1)], rs := [(false, 1)], τ := (.int .u32), σ := (.int .u32), f := fun x => crc_step k x }
def crc_step_F (k : Nat) : PT := fnone
theorem crc_step_fok (k : Nat) : FOK Tryd.prog tab (crc_step_F k) := fok_none
def crc_step_c0 : Cl := { keep := [0, 3], hl := 0, ad := [], adc := [], bump := [] }
def crc_step_x0 : Cl := { keep := [0], hl := 0, ad := [], adc := [], bump := [] }
def crc_step_c1 : Cl := { keep := [0, 3], hl := 0, ad := [], adc := [], bump := [] }
def crc_step_x1 : Cl := { keep := [0, 3], hl := 0, ad := [], adc := [], bump := [] }
def crc_step_h : Hint := (.sq .no (.sq (.sq .no (.lp crc_step_c0 crc_step_x0 0 (.sq .no (.sq .no (.ct crc_step_c1 crc_step_x1 1 .no .no))))) .no))
def crc_step_l0_E0 {R : Type} (K : EX → St → Option R) : Int → Option R := fun v0 => K (.exit 0) (mkSt 14 [] crc_step_x0.keep [.int .u32 v0] [])
def crc_step_l0_S (c_273 : Int) (v_274 : Int) : St := mkSt 14 [] crc_step_c0.keep [.int .u32 c_273, .int .i64 v_274] []
def crc_step_l0_sh : Rd (List AV × List HE) := .pair (.cons (.int .u32) (.cons (.int .i64) Rd.nil)) Rd.nil
def crc_step_l0_a {R : Type} (k : Nat) : Alt R := { n := 14, v := [], sh := crc_step_l0_sh, g := fun K x => crc_step_l0 (crc_step_l0_E0 K) k k x.1.1 x.1.2.1 }
def crc_step_j1_E0 {R : Type} (K : EX → St → Option R) : Int → Int → Option R := fun v0 v1 => K .normal (mkSt 14 [] crc_step_x1.keep [.int .u32 v0, .int .i64 v1] [])
def crc_step_j1_S (c_292 : Int) (v_293 : Int) : St := mkSt 14 [] crc_step_c1.keep [.int .u32 c_292, .int .i64 v_293] []
def crc_step_j1_sh : Rd (List AV × List HE) := .pair (.cons (.int .u32) (.cons (.int .i64) Rd.nil)) Rd.nil
def crc_step_j1_a {R : Type} (k : Nat) : Alt R := { n := 14, v := [], sh := crc_step_j1_sh, g := fun K x => crc_step_j1 (fun y1 => crc_step_j1_E0 K x.1.1 y1) k x.1.2.1 }
def crc_step_O {R : Type} (k : Nat) : CutK R := cutsO [[crc_step_l0_a k], [crc_step_j1_a k]]
noncomputable def crc_step_b : List Ob := obs (bodyOf Tryd.f22) crc_step_h
noncomputable def crc_step_I {R : Type} (k : Nat) : InlT R := inone
theorem crc_step_l0_eq {R : Type} (k : Nat) (K : EX → St → Option R) : ∀ (j : Nat) (c_273 : Int) (v_274 : Int), crc_step_l0 (crc_step_l0_E0 K) k j c_273 v_274 = iter crc_step_c0 crc_step_x0 (ev tab (crc_step_F k) (inlK tab (crc_step_F k) (crc_step_I k) 0) (crc_step_O k) (obB crc_step_b 0) (obH crc_step_b 0)) j (crc_step_l0_S c_273 v_274) K
  | 0, _, _ => rfl
  | j + 1, c_273, v_274 => by
    have e : crc_step_l0 (crc_step_l0_E0 K) k j = fun c_273 v_274 => iter crc_step_c0 crc_step_x0 (ev tab (crc_step_F k) (inlK tab (crc_step_F k) (crc_step_I k) 0) (crc_step_O k) (obB crc_step_b 0) (obH crc_step_b 0)) j (crc_step_l0_S c_273 v_274) K := by funext c_273 v_274; exact crc_step_l0_eq k K j c_273 v_274
    show crc_step_l0s (crc_step_l0 (crc_step_l0_E0 K) k j) (crc_step_l0_E0 K) k c_273 v_274 = _
    rw [e, iter_succ]; kernel_rfl
theorem crc_step_l0_ok {R : Type} (k : Nat)  : ObOK (R := R) tab (crc_step_F k) (inlK tab (crc_step_F k) (crc_step_I k) 0) (crc_step_O k) (.loop crc_step_c0 crc_step_x0 0 (obB crc_step_b 0) (obH crc_step_b 0)) :=
  loop_ok (l := [crc_step_l0_a k]) (by kernel_rfl) ⟨(fun K x => ⟨k, (crc_step_l0_eq k K k x.1.1 x.1.2.1).trans (by kernel_rfl)⟩), trivial⟩
theorem crc_step_j1_eq {R : Type} (k : Nat) (K : EX → St → Option R) (c_292 : Int) (v_293 : Int) : crc_step_j1 (fun y1 => crc_step_j1_E0 K c_292 y1) k v_293 = ev tab (crc_step_F k) (inlK tab (crc_step_F k) (crc_step_I k) 0) (crc_step_O k) (obB crc_step_b 1) (obH crc_step_b 1) (crc_step_j1_S c_292 v_293) (fun e st => optb (clean crc_step_x1 st) fun st => K e st) := by kernel_rfl
theorem crc_step_j1_ok {R : Type} (k : Nat)  : ObOK (R := R) tab (crc_step_F k) (inlK tab (crc_step_F k) (crc_step_I k) 0) (crc_step_O k) (.join crc_step_c1 crc_step_x1 1 (obB crc_step_b 1) (obH crc_step_b 1)) :=
  join_ok (l := [crc_step_j1_a k]) (by kernel_rfl) ⟨(fun K x => (crc_step_j1_eq k K x.1.1 x.1.2.1).trans (by kernel_rfl)), trivial⟩
theorem crc_step_cuts {R : Type} (k : Nat) : ∀ c, Tryd.f22.body = some c → CutsOK (R := R) tab (crc_step_F k) (inlK tab (crc_step_F k) (crc_step_I k) 0) (crc_step_O k) c crc_step_h :=
  cuts_of (l := [.loop crc_step_c0 crc_step_x0 0 (obB crc_step_b 0) (obH crc_step_b 0), .join crc_step_c1 crc_step_x1 1 (obB crc_step_b 1) (obH crc_step_b 1)]) (by kernel_rfl) ⟨crc_step_l0_ok k, crc_step_j1_ok k, trivial⟩
theorem crc_step_iok {R : Type} (k : Nat) : IOK Tryd.prog tab (crc_step_F k) (crc_step_I (R := R) k) := iok_none
theorem crc_step_ev (k : Nat) (x : (crc_step_p k).τ.den) : evalF tab (crc_step_F k) (crc_step_p k) (crc_step_I k) 0 (crc_step_O k) crc_step_h Tryd.f22 x = (crc_step_p k).f x := by kernel_rfl
theorem crc_step_ok (k : Nat) : PFOK Tryd.prog tab 22 (crc_step_p k) := pfok mixed tabOK (crc_step_fok k) Tryd.func22 (I := crc_step_I k) (d := 0) (crc_step_iok k) (Q := crc_step_O k) (hi := crc_step_h) (crc_step_cuts k) (crc_step_ev k)
end Go.Proofs.YtdmcfpnegbfgiaaDoor.Ev
