/- corbellaw10_BookReads, told on plain data. Written by program. -/
import Derived.Test.YtbaikphpohdmoaaEcorbellaw10_speaks
import Derived.Test.YtbaikphpohdmoaaEcorbellaw10_given
import Derived.Test.YtbaikphpohdmoaaEbook_Read
import Derived.Test.YtbaikphpohdmoaaEcorbelref10_Read
import Derived.Test.YtbaikphpohdmoaaEcorbellaw10_same
set_option linter.unusedVariables false
set_option maxRecDepth 1000000
namespace Go.Proofs.Ytbaikphpohdmoaa.Ev
open Go Go.RowKit Go.Proofs
def BR_j0 {R : Type} (e0 : Bool → Option R) (k : Nat) (f_0 : Int) (ba_1 : Int) (bb_2 : Bool) (bc_3 : List (Int × (Int × Int))) (bd_4 : Bool) (be_5 : List Int) (bf_6 : Int) (bg_7 : Int) (hN_8 : Bool) (h_9 : List (Int × (Int × Int))) (hN_10 : Bool) (h_11 : List Int) (va_12 : Int) (vb_13 : Int) (vc_14 : Int) : Option R :=
  bif (!(decide (f_0 = (0 : Int)))) then
    bif (decide (ba_1 = (0 : Int))) then
      bif (decide ((wrap64 ((lenI bc_3) + (lenI be_5))) = (0 : Int))) then
        bif (decide (bf_6 = (0 : Int))) then
          e0 (decide (bg_7 = (0 : Int)))
        else e0 false
      else e0 false
    else e0 false
  else optb (corbellaw10_same k ba_1 bb_2 bc_3 bd_4 be_5 bf_6 bg_7 va_12 hN_8 h_9 hN_10 h_11 vb_13 vc_14) fun r_15 =>
  e0 r_15
def corbellaw10_BookReads (k : Nat) (xa_1 : Int) (xb_2 : Int) (xc_3 : Int) (xd_4 : Int) (xe_5 : Int) (listsa_6 : Bool) (listsb_7 : List (Bool × List (Int × (Int × (Int × (Int × (Int × Int))))))) : Option Bool :=
  optb (corbellaw10_speaks k) fun r_16 =>
  bif (!r_16) then
    some false
  else optb (corbellaw10_given k listsa_6 listsb_7) fun r_17 =>
  optb (book_Read k xa_1 xb_2 xc_3 xd_4 xe_5 r_17.1.1 r_17.1.2) fun r_18 =>
  optb (corbelref10_Read k xa_1 xb_2 xc_3 xd_4 xe_5 r_17.2.1 r_17.2.2) fun r_19 =>
  bif (!(decide (r_18.2 = r_19.2))) then
    some false
  else BR_j0 (fun v_20 =>
    some v_20) k r_19.2 r_18.1.1 r_18.1.2.1.1 r_18.1.2.1.2 r_18.1.2.2.1.1 r_18.1.2.2.1.2 r_18.1.2.2.2.1 r_18.1.2.2.2.2 r_19.1.2.1.1 r_19.1.2.1.2 r_19.1.2.2.1.1 r_19.1.2.2.1.2 r_19.1.1 r_19.1.2.2.2.1 r_19.1.2.2.2.2
def corbellaw10_BookReads_p (k : Nat) : PF := { ps := [(true, 5), (false, 1)], rs := [(false, 1)], τ := (.pair (.pair (.int .i64) (.pair (.int .i64) (.pair (.int .i64) (.pair (.int .i64) (.int .i64))))) (.sl (.sl (.pair (.int .i64) (.pair (.int .i64) (.pair (.int .i64) (.pair (.int .i64) (.pair (.int .i64) (.int .i64))))))))), σ := .bool, f := fun x => corbellaw10_BookReads k x.1.1 x.1.2.1 x.1.2.2.1 x.1.2.2.2.1 x.1.2.2.2.2 x.2.1 x.2.2 }
def BR_F (k : Nat) : PT := fcons 21 (corbellaw10_speaks_p k) <| fcons 22 (corbellaw10_given_p k) <| fcons 23 (book_Read_p k) <| fcons 24 (corbelref10_Read_p k) <| fcons 25 (corbellaw10_same_p k) <| fnone
theorem BR_fok (k : Nat) : FOK Try.prog tab (BR_F k) := fok_cons (corbellaw10_speaks_ok k) Try.call21 <| fok_cons (corbellaw10_given_ok k) Try.call22 <| fok_cons (book_Read_ok k) Try.call23 <| fok_cons (corbelref10_Read_ok k) Try.call24 <| fok_cons (corbellaw10_same_ok k) Try.call25 <| fok_none
def BR_c0 : Cl := { keep := [7, 9, 10], hl := 7, ad := [], adc := [], bump := [] }
def BR_x0 : Cl := { keep := [4], hl := 0, ad := [], adc := [], bump := [] }
def BR_h : Hint := (.sq .no (.sq .no (.sq .no (.sq .no (.sq .no (.ct BR_c0 BR_x0 0 .no .no))))))
def BR_j0_E0 {R : Type} (K : EX → St → Option R) : Bool → Option R := fun v0 => K .ret (mkSt 61 [] BR_x0.keep [.bool v0] [])
def BR_j0_S (f_0 : Int) (ha_21 : Int) (hb_22 : Int) (hc_23 : Int) (hd_24 : Int) (he_25 : Int) (hN_26 : Bool) (h_27 : List (Bool × List (Int × (Int × (Int × (Int × (Int × (Int × ByteArray)))))))) (ba_1 : Int) (bb_2 : Bool) (bc_3 : List (Int × (Int × Int))) (bd_4 : Bool) (be_5 : List Int) (bf_6 : Int) (bg_7 : Int) (hN_8 : Bool) (h_9 : List (Int × (Int × Int))) (hN_10 : Bool) (h_11 : List Int) (va_12 : Int) (vb_13 : Int) (vc_14 : Int) : St := mkSt 61 [] BR_c0.keep [.ptr 3 0, .ptr 6 0, .int .i64 f_0] [.blk [.int .i64 ha_21, .int .i64 hb_22, .int .i64 hc_23, .int .i64 hd_24, .int .i64 he_25], .dead 1, .lst (.sl (.pair (.int .i64) (.pair (.int .i64) (.pair (.int .i64) (.pair (.int .i64) (.pair (.int .i64) (.pair (.int .i64) .str))))))) 113 hN_26 1 h_27, .blk [.int .i64 ba_1, .sl (.pair (.int .i64) (.pair (.int .i64) (.int .i64))) bb_2 bc_3, .sl (.int .i64) bd_4 be_5, .int .i64 bf_6, .int .i64 bg_7], .lst (.pair (.int .i64) (.pair (.int .i64) (.int .i64))) 124 hN_8 1 h_9, .lst (.int .i64) 3 hN_10 1 h_11, .blk [.int .i64 va_12, .own 4 1, .own 5 1, .int .i64 vb_13, .int .i64 vc_14]]
def BR_j0_sh : Rd (List AV × List HE) := .pair (.cons (.ptr 3 0) (.cons (.ptr 6 0) (.cons (.int .i64) Rd.nil))) (.cons (.blk (.cons (.int .i64) (.cons (.int .i64) (.cons (.int .i64) (.cons (.int .i64) (.cons (.int .i64) Rd.nil)))))) (.cons (.dead 1) (.cons (.lst (.sl (.pair (.int .i64) (.pair (.int .i64) (.pair (.int .i64) (.pair (.int .i64) (.pair (.int .i64) (.pair (.int .i64) .str))))))) 113 1) (.cons (.blk (.cons (.int .i64) (.cons (.sl (.pair (.int .i64) (.pair (.int .i64) (.int .i64)))) (.cons (.sl (.int .i64)) (.cons (.int .i64) (.cons (.int .i64) Rd.nil)))))) (.cons (.lst (.pair (.int .i64) (.pair (.int .i64) (.int .i64))) 124 1) (.cons (.lst (.int .i64) 3 1) (.cons (.blk (.cons (.int .i64) (.cons (.own 4 1) (.cons (.own 5 1) (.cons (.int .i64) (.cons (.int .i64) Rd.nil)))))) Rd.nil)))))))
def BR_j0_a {R : Type} (k : Nat) : Alt R := { n := 61, v := [], sh := BR_j0_sh, g := fun K x => BR_j0 (BR_j0_E0 K) k x.1.2.2.1 x.2.2.2.2.1.1 x.2.2.2.2.1.2.1.1 x.2.2.2.2.1.2.1.2 x.2.2.2.2.1.2.2.1.1 x.2.2.2.2.1.2.2.1.2 x.2.2.2.2.1.2.2.2.1 x.2.2.2.2.1.2.2.2.2.1 x.2.2.2.2.2.1.1 x.2.2.2.2.2.1.2 x.2.2.2.2.2.2.1.1 x.2.2.2.2.2.2.1.2 x.2.2.2.2.2.2.2.1.1 x.2.2.2.2.2.2.2.1.2.2.2.1 x.2.2.2.2.2.2.2.1.2.2.2.2.1 }
def BR_O {R : Type} (k : Nat) : CutK R := cutsO [[BR_j0_a k]]
noncomputable def BR_b : List Ob := obs (bodyOf Try.f7) BR_h
noncomputable def BR_I {R : Type} (k : Nat) : InlT R := inone
theorem BR_j0_eq {R : Type} (k : Nat) (K : EX → St → Option R) (f_0 : Int) (ha_21 : Int) (hb_22 : Int) (hc_23 : Int) (hd_24 : Int) (he_25 : Int) (hN_26 : Bool) (h_27 : List (Bool × List (Int × (Int × (Int × (Int × (Int × (Int × ByteArray)))))))) (ba_1 : Int) (bb_2 : Bool) (bc_3 : List (Int × (Int × Int))) (bd_4 : Bool) (be_5 : List Int) (bf_6 : Int) (bg_7 : Int) (hN_8 : Bool) (h_9 : List (Int × (Int × Int))) (hN_10 : Bool) (h_11 : List Int) (va_12 : Int) (vb_13 : Int) (vc_14 : Int) : BR_j0 (BR_j0_E0 K) k f_0 ba_1 bb_2 bc_3 bd_4 be_5 bf_6 bg_7 hN_8 h_9 hN_10 h_11 va_12 vb_13 vc_14 = ev tab (BR_F k) (inlK tab (BR_F k) (BR_I k) 0) (BR_O k) (obB BR_b 0) (obH BR_b 0) (BR_j0_S f_0 ha_21 hb_22 hc_23 hd_24 he_25 hN_26 h_27 ba_1 bb_2 bc_3 bd_4 be_5 bf_6 bg_7 hN_8 h_9 hN_10 h_11 va_12 vb_13 vc_14) (fun e st => optb (clean BR_x0 st) fun st => K e st) := by kernel_rfl
theorem BR_j0_ok {R : Type} (k : Nat)  : ObOK (R := R) tab (BR_F k) (inlK tab (BR_F k) (BR_I k) 0) (BR_O k) (.join BR_c0 BR_x0 0 (obB BR_b 0) (obH BR_b 0)) :=
  join_ok (l := [BR_j0_a k]) (by kernel_rfl) ⟨(fun K x => (BR_j0_eq k K x.1.2.2.1 x.2.1.1 x.2.1.2.1 x.2.1.2.2.1 x.2.1.2.2.2.1 x.2.1.2.2.2.2.1 x.2.2.2.1.1 x.2.2.2.1.2 x.2.2.2.2.1.1 x.2.2.2.2.1.2.1.1 x.2.2.2.2.1.2.1.2 x.2.2.2.2.1.2.2.1.1 x.2.2.2.2.1.2.2.1.2 x.2.2.2.2.1.2.2.2.1 x.2.2.2.2.1.2.2.2.2.1 x.2.2.2.2.2.1.1 x.2.2.2.2.2.1.2 x.2.2.2.2.2.2.1.1 x.2.2.2.2.2.2.1.2 x.2.2.2.2.2.2.2.1.1 x.2.2.2.2.2.2.2.1.2.2.2.1 x.2.2.2.2.2.2.2.1.2.2.2.2.1).trans (by kernel_rfl)), trivial⟩
theorem BR_cuts {R : Type} (k : Nat) : ∀ c, Try.f7.body = some c → CutsOK (R := R) tab (BR_F k) (inlK tab (BR_F k) (BR_I k) 0) (BR_O k) c BR_h :=
  cuts_of (l := [.join BR_c0 BR_x0 0 (obB BR_b 0) (obH BR_b 0)]) (by kernel_rfl) ⟨BR_j0_ok k, trivial⟩
theorem BR_iok {R : Type} (k : Nat) : IOK Try.prog tab (BR_F k) (BR_I (R := R) k) := iok_none
theorem corbellaw10_BookReads_ev (k : Nat) (x : (corbellaw10_BookReads_p k).τ.den) : evalF tab (BR_F k) (corbellaw10_BookReads_p k) (BR_I k) 0 (BR_O k) BR_h Try.f7 x = (corbellaw10_BookReads_p k).f x := by kernel_rfl
theorem corbellaw10_BookReads_ok (k : Nat) : PFOK Try.prog tab 7 (corbellaw10_BookReads_p k) := pfok mixed tabOK (BR_fok k) Try.func7 (I := BR_I k) (d := 0) (BR_iok k) (Q := BR_O k) (hi := BR_h) (BR_cuts k) (corbellaw10_BookReads_ev k)
end Go.Proofs.Ytbaikphpohdmoaa.Ev
