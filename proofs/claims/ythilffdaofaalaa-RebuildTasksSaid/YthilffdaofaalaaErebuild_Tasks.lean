/- rebuild_Tasks, told on plain data. Written by program. -/
import Derived.Test.YthilffdaofaalaaEplan_Lengths
import Derived.Test.YthilffdaofaalaaEgeom_Back
set_option linter.unusedVariables false
set_option maxRecDepth 1000000
namespace Go.Proofs.Ythilffdaofaalaa.Ev
open Go Go.RowKit Go.Proofs
def rebuild_Tasks_j0 {R : Type} (e0 : Option R) (e1 : Option R) (k : Nat) (v_11269 : Bool) : Option R :=
  bif v_11269 then
    e0
  else e1
def rebuild_Tasks_l1s {R : Type} (rc : Int → List (Int × (Bool × Int)) → Option R) (e0 : List (Int × (Bool × Int)) → Option R) (k : Nat) (zone_11298 : Int) (slot_11299 : Int) (v_11300 : Int) (ga_11302 : Int) (gb_11303 : Int) (gc_11304 : Int) (gd_11305 : Int) (ge_11306 : Int) (v_11301 : Int) (out_11310 : List (Int × (Bool × Int))) : Option R :=
  bif (decide (v_11301 < v_11300)) then
    optb (geom_Back k ga_11302 gb_11303 gc_11304 gd_11305 ge_11306 zone_11298 v_11301 slot_11299) fun r_11313 =>
    bif (decide (out_11310.length + ([(v_11301, ((!r_11313.2), r_11313.1))] : List (Int × (Bool × Int))).length ≤ 1099511627776)) then
      rc (wrap64 (v_11301 + (1 : Int))) (out_11310 ++ ([(v_11301, ((!r_11313.2), r_11313.1))] : List (Int × (Bool × Int))))
    else none
  else e0 out_11310
def rebuild_Tasks_l1 {R : Type} (e0 : List (Int × (Bool × Int)) → Option R) (k : Nat) (zone_11298 : Int) (slot_11299 : Int) (v_11300 : Int) (ga_11302 : Int) (gb_11303 : Int) (gc_11304 : Int) (gd_11305 : Int) (ge_11306 : Int) : Nat → Int → List (Int × (Bool × Int)) → Option R
  | 0 => fun _ _ => none
  | j + 1 => rebuild_Tasks_l1s (rebuild_Tasks_l1 e0 k zone_11298 slot_11299 v_11300 ga_11302 gb_11303 gc_11304 gd_11305 ge_11306 j) e0 k zone_11298 slot_11299 v_11300 ga_11302 gb_11303 gc_11304 gd_11305 ge_11306
def rebuild_Tasks_k0 (k : Nat) : Bool → List Int → Option (Bool × List (Int × (Bool × Int))) := fun lengthsN_11284 lengths_11285 =>
  some (true, ([] : List (Int × (Bool × Int))))
def rebuild_Tasks_k1 (k : Nat) (ga_10422 : Int) (gb_10423 : Int) (gc_10424 : Int) (gd_10425 : Int) (ge_10426 : Int) (slot_10429 : Int) (zone_10427 : Int) : Bool → List Int → Option (Bool × List (Int × (Bool × Int))) := fun lengthsN_11293 lengths_11294 =>
  bif ((decide ((0 : Int) ≤ slot_10429)) && (decide (slot_10429 < (lenI lengths_11294)))) then
    optb (lengths_11294[slot_10429.toNat]?) fun x_11297 =>
    rebuild_Tasks_l1 (fun out_11323 =>
      some (true, out_11323)) k zone_10427 slot_10429 x_11297 ga_10422 gb_10423 gc_10424 gd_10425 ge_10426 k (0 : Int) ([] : List (Int × (Bool × Int)))
  else none
def rebuild_Tasks (k : Nat) (ga_10422 : Int) (gb_10423 : Int) (gc_10424 : Int) (gd_10425 : Int) (ge_10426 : Int) (zone_10427 : Int) (written_10428 : Int) (slot_10429 : Int) : Option (Bool × List (Int × (Bool × Int))) :=
  optb (plan_Lengths k ga_10422 gb_10423 gc_10424 gd_10425 ge_10426 zone_10427 written_10428) fun r_11266 =>
  bif (decide (slot_10429 < (0 : Int))) then
    rebuild_Tasks_j0 (rebuild_Tasks_k0 k r_11266.1 r_11266.2) (rebuild_Tasks_k1 k ga_10422 gb_10423 gc_10424 gd_10425 ge_10426 slot_10429 zone_10427 r_11266.1 r_11266.2) k true
  else rebuild_Tasks_j0 (rebuild_Tasks_k0 k r_11266.1 r_11266.2) (rebuild_Tasks_k1 k ga_10422 gb_10423 gc_10424 gd_10425 ge_10426 slot_10429 zone_10427 r_11266.1 r_11266.2) k (decide ((lenI r_11266.2) ≤ slot_10429))
def rebuild_Tasks_p (k : Nat) : PF := { ps := [(true, 5), (false, 1), (false, 1), (false, 1)], rs := [(false, 1)], τ := (.pair (.pair (.int .i64) (.pair (.int .i64) (.pair (.int .i64) (.pair (.int .i64) (.int .i64))))) (.pair (.int .i64) (.pair (.int .i64) (.int .i64)))), σ := (.sl (.pair (.int .i64) (.pair .bool (.int .i64)))), f := fun x => rebuild_Tasks k x.1.1 x.1.2.1 x.1.2.2.1 x.1.2.2.2.1 x.1.2.2.2.2 x.2.1 x.2.2.1 x.2.2.2, fr := [some 92] }
def rebuild_Tasks_F (k : Nat) : PT := fcons 73 (plan_Lengths_p k) <| fcons 37 (geom_Back_p k) <| fnone
theorem rebuild_Tasks_fok (k : Nat) : FOK Try.prog tab (rebuild_Tasks_F k) := fok_cons (plan_Lengths_ok k) Try.call73 <| fok_cons (geom_Back_ok k) Try.call37 <| fok_none
def rebuild_Tasks_c0 : Cl := { keep := [1, 3, 4, 9, 25], hl := 2, ad := [], adc := [], bump := [] }
def rebuild_Tasks_x0 : Cl := { keep := [1, 3, 4, 8, 9], hl := 2, ad := [], adc := [], bump := [] }
def rebuild_Tasks_c1 : Cl := { keep := [1, 3, 4, 10, 29, 30], hl := 3, ad := [(10, (.pair (.int .i64) (.pair .bool (.int .i64))), 92)], adc := [], bump := [] }
def rebuild_Tasks_x1 : Cl := { keep := [10], hl := 3, ad := [], adc := [], bump := [] }
def rebuild_Tasks_h : Hint := (.sq .no (.sq .no (.sq (.ct rebuild_Tasks_c0 rebuild_Tasks_x0 0 .no .no) (.sq .no (.sq (.sq .no (.lp rebuild_Tasks_c1 rebuild_Tasks_x1 1 .no)) .no)))))
def rebuild_Tasks_j0_E0 {R : Type} (K : EX → St → Option R) : Int → Int → Int → Int → Int → Int → Int → Bool → List Int → Option R := fun v0 v1 v2 v3 v4 v5 v6 v7 v8 => K .ret (mkSt 51 [] rebuild_Tasks_x0.keep [.int .i64 v0, .int .i64 v1, .ptr 0 0, .nils, .own 1 1] [.blk [.int .i64 v2, .int .i64 v3, .int .i64 v4, .int .i64 v5, .int .i64 v6], .lst (.int .i64) 3 v7 1 v8])
def rebuild_Tasks_j0_E1 {R : Type} (K : EX → St → Option R) : Int → Int → Int → Int → Int → Int → Int → Bool → List Int → Option R := fun v0 v1 v2 v3 v4 v5 v6 v7 v8 => K .normal (mkSt 51 [] rebuild_Tasks_x0.keep [.int .i64 v0, .int .i64 v1, .ptr 0 0, .junk, .own 1 1] [.blk [.int .i64 v2, .int .i64 v3, .int .i64 v4, .int .i64 v5, .int .i64 v6], .lst (.int .i64) 3 v7 1 v8])
def rebuild_Tasks_j0_S (zone_11267 : Int) (slot_11268 : Int) (v_11269 : Bool) (ga_11270 : Int) (gb_11271 : Int) (gc_11272 : Int) (gd_11273 : Int) (ge_11274 : Int) (lengthsN_11275 : Bool) (lengths_11276 : List Int) : St := mkSt 51 [] rebuild_Tasks_c0.keep [.int .i64 zone_11267, .int .i64 slot_11268, .ptr 0 0, .own 1 1, .bool v_11269] [.blk [.int .i64 ga_11270, .int .i64 gb_11271, .int .i64 gc_11272, .int .i64 gd_11273, .int .i64 ge_11274], .lst (.int .i64) 3 lengthsN_11275 1 lengths_11276]
def rebuild_Tasks_j0_sh : Rd (List AV × List HE) := .pair (.cons (.int .i64) (.cons (.int .i64) (.cons (.ptr 0 0) (.cons (.own 1 1) (.cons .bool Rd.nil))))) (.cons (.blk (.cons (.int .i64) (.cons (.int .i64) (.cons (.int .i64) (.cons (.int .i64) (.cons (.int .i64) Rd.nil)))))) (.cons (.lst (.int .i64) 3 1) Rd.nil))
def rebuild_Tasks_j0_a {R : Type} (k : Nat) : Alt R := { n := 51, v := [], sh := rebuild_Tasks_j0_sh, g := fun K x => rebuild_Tasks_j0 (rebuild_Tasks_j0_E0 K x.1.1 x.1.2.1 x.2.1.1 x.2.1.2.1 x.2.1.2.2.1 x.2.1.2.2.2.1 x.2.1.2.2.2.2.1 x.2.2.1.1 x.2.2.1.2) (rebuild_Tasks_j0_E1 K x.1.1 x.1.2.1 x.2.1.1 x.2.1.2.1 x.2.1.2.2.1 x.2.1.2.2.2.1 x.2.1.2.2.2.2.1 x.2.2.1.1 x.2.2.1.2) k x.1.2.2.2.2.1 }
def rebuild_Tasks_l1_E0 {R : Type} (K : EX → St → Option R) : Int → Int → Int → Int → Int → Bool → List Int → Bool → List (Int × (Bool × Int)) → Option R := fun v0 v1 v2 v3 v4 v5 v6 v7 v8 => K (.exit 0) (mkSt 51 [] rebuild_Tasks_x1.keep [.own 2 1] [.blk [.int .i64 v0, .int .i64 v1, .int .i64 v2, .int .i64 v3, .int .i64 v4], .lst (.int .i64) 3 v5 1 v6, .lst (.pair (.int .i64) (.pair .bool (.int .i64))) 92 v7 1 v8])
def rebuild_Tasks_l1_S (zone_11298 : Int) (slot_11299 : Int) (v_11300 : Int) (v_11301 : Int) (ga_11302 : Int) (gb_11303 : Int) (gc_11304 : Int) (gd_11305 : Int) (ge_11306 : Int) (hN_11307 : Bool) (h_11308 : List Int) (outN_11309 : Bool) (out_11310 : List (Int × (Bool × Int))) : St := mkSt 51 [] rebuild_Tasks_c1.keep [.int .i64 zone_11298, .int .i64 slot_11299, .ptr 0 0, .own 2 1, .int .i64 v_11300, .int .i64 v_11301] [.blk [.int .i64 ga_11302, .int .i64 gb_11303, .int .i64 gc_11304, .int .i64 gd_11305, .int .i64 ge_11306], .lst (.int .i64) 3 hN_11307 1 h_11308, .lst (.pair (.int .i64) (.pair .bool (.int .i64))) 92 outN_11309 1 out_11310]
def rebuild_Tasks_l1_sh : Rd (List AV × List HE) := .pair (.cons (.int .i64) (.cons (.int .i64) (.cons (.ptr 0 0) (.cons (.own 2 1) (.cons (.int .i64) (.cons (.int .i64) Rd.nil)))))) (.cons (.blk (.cons (.int .i64) (.cons (.int .i64) (.cons (.int .i64) (.cons (.int .i64) (.cons (.int .i64) Rd.nil)))))) (.cons (.lst (.int .i64) 3 1) (.cons (.lst (.pair (.int .i64) (.pair .bool (.int .i64))) 92 1) Rd.nil)))
def rebuild_Tasks_l1_a {R : Type} (k : Nat) : Alt R := { n := 51, v := [], sh := rebuild_Tasks_l1_sh, g := fun K x => rebuild_Tasks_l1 (fun y8 => rebuild_Tasks_l1_E0 K x.2.1.1 x.2.1.2.1 x.2.1.2.2.1 x.2.1.2.2.2.1 x.2.1.2.2.2.2.1 x.2.2.1.1 x.2.2.1.2 x.2.2.2.1.1 y8) k x.1.1 x.1.2.1 x.1.2.2.2.2.1 x.2.1.1 x.2.1.2.1 x.2.1.2.2.1 x.2.1.2.2.2.1 x.2.1.2.2.2.2.1 k x.1.2.2.2.2.2.1 x.2.2.2.1.2 }
def rebuild_Tasks_O {R : Type} (k : Nat) : CutK R := cutsO [[rebuild_Tasks_j0_a k], [rebuild_Tasks_l1_a k]]
noncomputable def rebuild_Tasks_b : List Ob := obs (bodyOf Try.f36) rebuild_Tasks_h
noncomputable def rebuild_Tasks_I {R : Type} (k : Nat) : InlT R := inone
theorem rebuild_Tasks_j0_eq {R : Type} (k : Nat) (K : EX → St → Option R) (zone_11267 : Int) (slot_11268 : Int) (v_11269 : Bool) (ga_11270 : Int) (gb_11271 : Int) (gc_11272 : Int) (gd_11273 : Int) (ge_11274 : Int) (lengthsN_11275 : Bool) (lengths_11276 : List Int) : rebuild_Tasks_j0 (rebuild_Tasks_j0_E0 K zone_11267 slot_11268 ga_11270 gb_11271 gc_11272 gd_11273 ge_11274 lengthsN_11275 lengths_11276) (rebuild_Tasks_j0_E1 K zone_11267 slot_11268 ga_11270 gb_11271 gc_11272 gd_11273 ge_11274 lengthsN_11275 lengths_11276) k v_11269 = ev tab (rebuild_Tasks_F k) (inlK tab (rebuild_Tasks_F k) (rebuild_Tasks_I k) 0) (rebuild_Tasks_O k) (obB rebuild_Tasks_b 0) (obH rebuild_Tasks_b 0) (rebuild_Tasks_j0_S zone_11267 slot_11268 v_11269 ga_11270 gb_11271 gc_11272 gd_11273 ge_11274 lengthsN_11275 lengths_11276) (fun e st => optb (clean rebuild_Tasks_x0 st) fun st => K e st) := by kernel_rfl
theorem rebuild_Tasks_j0_ok {R : Type} (k : Nat)  : ObOK (R := R) tab (rebuild_Tasks_F k) (inlK tab (rebuild_Tasks_F k) (rebuild_Tasks_I k) 0) (rebuild_Tasks_O k) (.join rebuild_Tasks_c0 rebuild_Tasks_x0 0 (obB rebuild_Tasks_b 0) (obH rebuild_Tasks_b 0)) :=
  join_ok (l := [rebuild_Tasks_j0_a k]) (by kernel_rfl) ⟨(fun K x => (rebuild_Tasks_j0_eq k K x.1.1 x.1.2.1 x.1.2.2.2.2.1 x.2.1.1 x.2.1.2.1 x.2.1.2.2.1 x.2.1.2.2.2.1 x.2.1.2.2.2.2.1 x.2.2.1.1 x.2.2.1.2).trans (by kernel_rfl)), trivial⟩
theorem rebuild_Tasks_l1_eq {R : Type} (k : Nat) (K : EX → St → Option R) (zone_11298 : Int) (slot_11299 : Int) (v_11300 : Int) (ga_11302 : Int) (gb_11303 : Int) (gc_11304 : Int) (gd_11305 : Int) (ge_11306 : Int) (hN_11307 : Bool) (h_11308 : List Int) (outN_11309 : Bool) : ∀ (j : Nat) (v_11301 : Int) (out_11310 : List (Int × (Bool × Int))), rebuild_Tasks_l1 (fun y8 => rebuild_Tasks_l1_E0 K ga_11302 gb_11303 gc_11304 gd_11305 ge_11306 hN_11307 h_11308 outN_11309 y8) k zone_11298 slot_11299 v_11300 ga_11302 gb_11303 gc_11304 gd_11305 ge_11306 j v_11301 out_11310 = iter rebuild_Tasks_c1 rebuild_Tasks_x1 (ev tab (rebuild_Tasks_F k) (inlK tab (rebuild_Tasks_F k) (rebuild_Tasks_I k) 0) (rebuild_Tasks_O k) (obB rebuild_Tasks_b 1) (obH rebuild_Tasks_b 1)) j (rebuild_Tasks_l1_S zone_11298 slot_11299 v_11300 v_11301 ga_11302 gb_11303 gc_11304 gd_11305 ge_11306 hN_11307 h_11308 outN_11309 out_11310) K
  | 0, _, _ => rfl
  | j + 1, v_11301, out_11310 => by
    have e : rebuild_Tasks_l1 (fun y8 => rebuild_Tasks_l1_E0 K ga_11302 gb_11303 gc_11304 gd_11305 ge_11306 hN_11307 h_11308 outN_11309 y8) k zone_11298 slot_11299 v_11300 ga_11302 gb_11303 gc_11304 gd_11305 ge_11306 j = fun v_11301 out_11310 => iter rebuild_Tasks_c1 rebuild_Tasks_x1 (ev tab (rebuild_Tasks_F k) (inlK tab (rebuild_Tasks_F k) (rebuild_Tasks_I k) 0) (rebuild_Tasks_O k) (obB rebuild_Tasks_b 1) (obH rebuild_Tasks_b 1)) j (rebuild_Tasks_l1_S zone_11298 slot_11299 v_11300 v_11301 ga_11302 gb_11303 gc_11304 gd_11305 ge_11306 hN_11307 h_11308 outN_11309 out_11310) K := by funext v_11301 out_11310; exact rebuild_Tasks_l1_eq k K zone_11298 slot_11299 v_11300 ga_11302 gb_11303 gc_11304 gd_11305 ge_11306 hN_11307 h_11308 outN_11309 j v_11301 out_11310
    show rebuild_Tasks_l1s (rebuild_Tasks_l1 (fun y8 => rebuild_Tasks_l1_E0 K ga_11302 gb_11303 gc_11304 gd_11305 ge_11306 hN_11307 h_11308 outN_11309 y8) k zone_11298 slot_11299 v_11300 ga_11302 gb_11303 gc_11304 gd_11305 ge_11306 j) (fun y8 => rebuild_Tasks_l1_E0 K ga_11302 gb_11303 gc_11304 gd_11305 ge_11306 hN_11307 h_11308 outN_11309 y8) k zone_11298 slot_11299 v_11300 ga_11302 gb_11303 gc_11304 gd_11305 ge_11306 v_11301 out_11310 = _
    rw [e, iter_succ]; kernel_rfl
theorem rebuild_Tasks_l1_ok {R : Type} (k : Nat)  : ObOK (R := R) tab (rebuild_Tasks_F k) (inlK tab (rebuild_Tasks_F k) (rebuild_Tasks_I k) 0) (rebuild_Tasks_O k) (.loop rebuild_Tasks_c1 rebuild_Tasks_x1 1 (obB rebuild_Tasks_b 1) (obH rebuild_Tasks_b 1)) :=
  loop_ok (l := [rebuild_Tasks_l1_a k]) (by kernel_rfl) ⟨(fun K x => ⟨k, (rebuild_Tasks_l1_eq k K x.1.1 x.1.2.1 x.1.2.2.2.2.1 x.2.1.1 x.2.1.2.1 x.2.1.2.2.1 x.2.1.2.2.2.1 x.2.1.2.2.2.2.1 x.2.2.1.1 x.2.2.1.2 x.2.2.2.1.1 k x.1.2.2.2.2.2.1 x.2.2.2.1.2).trans (by kernel_rfl)⟩), trivial⟩
theorem rebuild_Tasks_cuts {R : Type} (k : Nat) : ∀ c, Try.f36.body = some c → CutsOK (R := R) tab (rebuild_Tasks_F k) (inlK tab (rebuild_Tasks_F k) (rebuild_Tasks_I k) 0) (rebuild_Tasks_O k) c rebuild_Tasks_h :=
  cuts_of (l := [.join rebuild_Tasks_c0 rebuild_Tasks_x0 0 (obB rebuild_Tasks_b 0) (obH rebuild_Tasks_b 0), .loop rebuild_Tasks_c1 rebuild_Tasks_x1 1 (obB rebuild_Tasks_b 1) (obH rebuild_Tasks_b 1)]) (by kernel_rfl) ⟨rebuild_Tasks_j0_ok k, rebuild_Tasks_l1_ok k, trivial⟩
theorem rebuild_Tasks_iok {R : Type} (k : Nat) : IOK Try.prog tab (rebuild_Tasks_F k) (rebuild_Tasks_I (R := R) k) := iok_none
theorem rebuild_Tasks_ev (k : Nat) (x : (rebuild_Tasks_p k).τ.den) : evalF tab (rebuild_Tasks_F k) (rebuild_Tasks_p k) (rebuild_Tasks_I k) 0 (rebuild_Tasks_O k) rebuild_Tasks_h Try.f36 x = (rebuild_Tasks_p k).f x := by kernel_rfl
theorem rebuild_Tasks_ok (k : Nat) : PFOK Try.prog tab 36 (rebuild_Tasks_p k) := pfok mixed tabOK (rebuild_Tasks_fok k) Try.func36 (I := rebuild_Tasks_I k) (d := 0) (rebuild_Tasks_iok k) (Q := rebuild_Tasks_O k) (hi := rebuild_Tasks_h) (rebuild_Tasks_cuts k) (rebuild_Tasks_ev k)
end Go.Proofs.Ythilffdaofaalaa.Ev
