/- corbellaw11_StripeOne, told on plain data. Written by program. -/
import Derived.Test.YtbgcfcojepfdbaaEcorbellaw11_speaks
import Derived.Test.YtbgcfcojepfdbaaEstripe_New
import Derived.Test.YtbgcfcojepfdbaaEcorbellaw11_block
import Derived.Test.YtbgcfcojepfdbaaEstripe_Row_Add
import Derived.Test.YtbgcfcojepfdbaaEstripe_Row_Parity
import Derived.Test.YtbgcfcojepfdbaaEstripe_Restore
set_option linter.unusedVariables false
set_option maxRecDepth 1000000
namespace Go.Proofs.Ytbgcfcojepfdbaa.Ev
open Go Go.RowKit Go.Proofs
def corbellaw11_StripeOne_l0s {R : Type} (rc : Int → Int → Bool → List ByteArray → List ByteArray → Option R) (e0 : Int → Bool → List ByteArray → List ByteArray → Option R) (k : Nat) (lb_20137 : List ByteArray) (i_20139 : Int) (ra_20140 : Int) (rb_20141 : Bool) (rc_20142 : List ByteArray) (have_20144 : List ByteArray) : Option R :=
  bif (decide (i_20139 < (lenI lb_20137))) then
    bif (decide (i_20139 < (15 : Int))) then
      bif (decide ((0 : Int) ≤ i_20139)) then
        optb (lb_20137[i_20139.toNat]?) fun x_20153 =>
        optb (corbellaw11_block k x_20153 false) fun r_20154 =>
        optb (stripe_Row_Add k ra_20140 rb_20141 rc_20142 r_20154) fun r_20155 =>
        bif (decide ((0 : Int) ≤ i_20139)) then
          optb (lb_20137[i_20139.toNat]?) fun x_20156 =>
          optb (corbellaw11_block k x_20156 false) fun r_20157 =>
          bif (decide (have_20144.length + ([r_20157] : List ByteArray).length ≤ 1099511627776)) then
            rc (wrap64 (i_20139 + (1 : Int))) r_20155.1.1 r_20155.1.2.1 r_20155.1.2.2 (have_20144 ++ ([r_20157] : List ByteArray))
          else none
        else none
      else none
    else e0 ra_20140 rb_20141 rc_20142 have_20144
  else e0 ra_20140 rb_20141 rc_20142 have_20144
def corbellaw11_StripeOne_l0 {R : Type} (e0 : Int → Bool → List ByteArray → List ByteArray → Option R) (k : Nat) (lb_20137 : List ByteArray) : Nat → Int → Int → Bool → List ByteArray → List ByteArray → Option R
  | 0 => fun _ _ _ _ _ => none
  | j + 1 => corbellaw11_StripeOne_l0s (corbellaw11_StripeOne_l0 e0 k lb_20137 j) e0 k lb_20137
def corbellaw11_StripeOne_j1 {R : Type} (e0 : Bool → Option R) (k : Nat) (which_20175 : Int) (s_20176 : ByteArray) (e_20177 : Int) (have_20182 : List ByteArray) (in_20184 : List ByteArray) : Option R :=
  bif (decide (e_20177 = (0 : Int))) then
    bif ((decide ((0 : Int) ≤ which_20175)) && (decide (which_20175 < (lenI have_20182)))) then
      optb (have_20182[which_20175.toNat]?) fun x_20185 =>
      bif (decide (s_20176 = x_20185)) then
        bif ((decide ((0 : Int) ≤ which_20175)) && (decide (which_20175 < (lenI in_20184)))) then
          optb (in_20184[which_20175.toNat]?) fun x_20186 =>
          e0 (decide (x_20186 = (⟨#[97, 110, 121, 116, 104, 105, 110, 103]⟩ : ByteArray)))
        else none
      else e0 false
    else none
  else e0 false
def corbellaw11_StripeOne (k : Nat) (la_19611 : Bool) (lb_19612 : List ByteArray) (which_19613 : Int) : Option Bool :=
  optb (corbellaw11_speaks k) fun r_20134 =>
  bif (!r_20134) then
    some false
  else optb (stripe_New k (15 : Int)) fun r_20135 =>
  corbellaw11_StripeOne_l0 (fun ra_20159 rb_20160 rc_20161 have_20163 =>
    bif (decide ((lenI have_20163) = (0 : Int))) then
      optb (stripe_Row_Parity k ra_20159 rb_20160 rc_20161) fun r_20166 =>
      optb (stripe_Restore k r_20166 true ([] : List ByteArray) which_19613) fun r_20167 =>
      some (decide (r_20167.2 = (1 : Int)))
    else bif (decide ((lenI have_20163) = (0 : Int))) then
      none
    else let z_20168 := (wrap64 ((Int.tmod which_19613 (lenI have_20163)) + (lenI have_20163)))
    bif (decide ((lenI have_20163) = (0 : Int))) then
      none
    else bif (decide (([] : List ByteArray).length + have_20163.length ≤ 1099511627776)) then
      bif ((decide ((0 : Int) ≤ (Int.tmod z_20168 (lenI have_20163)))) && (decide ((Int.tmod z_20168 (lenI have_20163)) < (lenI (([] : List ByteArray) ++ have_20163))))) then
        optb ((([] : List ByteArray) ++ have_20163)[(Int.tmod z_20168 (lenI have_20163)).toNat]?) fun x_20171 =>
        let z_20172 := (List.set (([] : List ByteArray) ++ have_20163) (Int.tmod z_20168 (lenI have_20163)).toNat (⟨#[97, 110, 121, 116, 104, 105, 110, 103]⟩ : ByteArray))
        optb (stripe_Row_Parity k ra_20159 rb_20160 rc_20161) fun r_20173 =>
        optb (stripe_Restore k r_20173 false z_20172 (Int.tmod z_20168 (lenI have_20163))) fun r_20174 =>
        corbellaw11_StripeOne_j1 (fun v_20188 =>
          some v_20188) k (Int.tmod z_20168 (lenI have_20163)) r_20174.1 r_20174.2 have_20163 z_20172
      else none
    else none) k lb_19612 k (0 : Int) r_20135.1.1 r_20135.1.2.1 r_20135.1.2.2 ([] : List ByteArray)
def corbellaw11_StripeOne_p (k : Nat) : PF := { ps := [(false, 1), (false, 1)], rs := [(false, 1)], τ := (.pair (.sl .str) (.int .i64)), σ := .bool, f := fun x => corbellaw11_StripeOne k x.1.1 x.1.2 x.2 }
def corbellaw11_StripeOne_F (k : Nat) : PT := fcons 10 (corbellaw11_speaks_p k) <| fcons 14 (stripe_New_p k) <| fcons 11 (corbellaw11_block_p k) <| fcons 17 (stripe_Row_Add_p k) <| fcons 18 (stripe_Row_Parity_p k) <| fcons 12 (stripe_Restore_p k) <| fnone
theorem corbellaw11_StripeOne_fok (k : Nat) : FOK Try.prog tab (corbellaw11_StripeOne_F k) := fok_cons (corbellaw11_speaks_ok k) Try.call10 <| fok_cons (stripe_New_ok k) Try.call14 <| fok_cons (corbellaw11_block_ok k) Try.call11 <| fok_cons (stripe_Row_Add_ok k) Try.call17 <| fok_cons (stripe_Row_Parity_ok k) Try.call18 <| fok_cons (stripe_Restore_ok k) Try.call12 <| fok_none
def corbellaw11_StripeOne_c0 : Cl := { keep := [0, 1, 5, 7, 8], hl := 3, ad := [(7, .str, 9)], adc := [], bump := [], dmc := [(1, 1, .str)] }
def corbellaw11_StripeOne_x0 : Cl := { keep := [1, 5, 7], hl := 3, ad := [], adc := [], bump := [] }
def corbellaw11_StripeOne_c1 : Cl := { keep := [1, 7, 11, 12, 13], hl := 4, ad := [], adc := [], bump := [] }
def corbellaw11_StripeOne_x1 : Cl := { keep := [4], hl := 0, ad := [], adc := [], bump := [] }
def corbellaw11_StripeOne_h : Hint := (.sq .no (.sq .no (.sq .no (.sq .no (.sq (.sq .no (.lp corbellaw11_StripeOne_c0 corbellaw11_StripeOne_x0 0 .no)) (.sq .no (.sq .no (.sq .no (.sq .no (.ct corbellaw11_StripeOne_c1 corbellaw11_StripeOne_x1 1 .no .no))))))))))
def corbellaw11_StripeOne_l0_E0 {R : Type} (K : EX → St → Option R) : Int → Int → Bool → List ByteArray → Bool → List ByteArray → Option R := fun v0 v1 v2 v3 v4 v5 => K (.exit 0) (mkSt 101 [] corbellaw11_StripeOne_x0.keep [.int .i64 v0, .ptr 1 0, .own 2 1] [.dead 1, .blk [.int .i64 v1, .sl .str v2 v3], .lst .str 9 v4 1 v5])
def corbellaw11_StripeOne_l0_S (la_20136 : Bool) (lb_20137 : List ByteArray) (which_20138 : Int) (i_20139 : Int) (ra_20140 : Int) (rb_20141 : Bool) (rc_20142 : List ByteArray) (haveN_20143 : Bool) (have_20144 : List ByteArray) : St := mkSt 101 [] corbellaw11_StripeOne_c0.keep [.sl .str la_20136 lb_20137, .int .i64 which_20138, .ptr 1 0, .own 2 1, .int .i64 i_20139] [.dead 1, .blk [.int .i64 ra_20140, .sl .str rb_20141 rc_20142], .lst .str 9 haveN_20143 1 have_20144]
def corbellaw11_StripeOne_l0_sh : Rd (List AV × List HE) := .pair (.cons (.sl .str) (.cons (.int .i64) (.cons (.ptr 1 0) (.cons (.own 2 1) (.cons (.int .i64) Rd.nil))))) (.cons (.dead 1) (.cons (.blk (.cons (.int .i64) (.cons (.sl .str) Rd.nil))) (.cons (.lst .str 9 1) Rd.nil)))
def corbellaw11_StripeOne_l0_a {R : Type} (k : Nat) : Alt R := { n := 101, v := [], sh := corbellaw11_StripeOne_l0_sh, g := fun K x => corbellaw11_StripeOne_l0 (fun y1 y2 y3 y5 => corbellaw11_StripeOne_l0_E0 K x.1.2.1 y1 y2 y3 x.2.2.2.1.1 y5) k x.1.1.2 k x.1.2.2.2.2.1 x.2.2.1.1 x.2.2.1.2.1.1 x.2.2.1.2.1.2 x.2.2.2.1.2 }
def corbellaw11_StripeOne_j1_E0 {R : Type} (K : EX → St → Option R) : Bool → Option R := fun v0 => K .ret (mkSt 101 [] corbellaw11_StripeOne_x1.keep [.bool v0] [])
def corbellaw11_StripeOne_j1_S (which_20175 : Int) (s_20176 : ByteArray) (e_20177 : Int) (ha_20178 : Int) (hb_20179 : Bool) (hc_20180 : List ByteArray) (haveN_20181 : Bool) (have_20182 : List ByteArray) (inN_20183 : Bool) (in_20184 : List ByteArray) : St := mkSt 101 [] corbellaw11_StripeOne_c1.keep [.int .i64 which_20175, .own 2 1, .own 3 1, .str s_20176, .int .i64 e_20177] [.dead 1, .blk [.int .i64 ha_20178, .sl .str hb_20179 hc_20180], .lst .str 9 haveN_20181 1 have_20182, .lst .str 9 inN_20183 1 in_20184]
def corbellaw11_StripeOne_j1_sh : Rd (List AV × List HE) := .pair (.cons (.int .i64) (.cons (.own 2 1) (.cons (.own 3 1) (.cons .str (.cons (.int .i64) Rd.nil))))) (.cons (.dead 1) (.cons (.blk (.cons (.int .i64) (.cons (.sl .str) Rd.nil))) (.cons (.lst .str 9 1) (.cons (.lst .str 9 1) Rd.nil))))
def corbellaw11_StripeOne_j1_a {R : Type} (k : Nat) : Alt R := { n := 101, v := [], sh := corbellaw11_StripeOne_j1_sh, g := fun K x => corbellaw11_StripeOne_j1 (corbellaw11_StripeOne_j1_E0 K) k x.1.1 x.1.2.2.2.1 x.1.2.2.2.2.1 x.2.2.2.1.2 x.2.2.2.2.1.2 }
def corbellaw11_StripeOne_O {R : Type} (k : Nat) : CutK R := cutsO [[corbellaw11_StripeOne_l0_a k], [corbellaw11_StripeOne_j1_a k]]
noncomputable def corbellaw11_StripeOne_b : List Ob := obs (bodyOf Try.f5) corbellaw11_StripeOne_h
noncomputable def corbellaw11_StripeOne_I {R : Type} (k : Nat) : InlT R := inone
theorem corbellaw11_StripeOne_l0_eq {R : Type} (k : Nat) (K : EX → St → Option R) (la_20136 : Bool) (lb_20137 : List ByteArray) (which_20138 : Int) (haveN_20143 : Bool) : ∀ (j : Nat) (i_20139 : Int) (ra_20140 : Int) (rb_20141 : Bool) (rc_20142 : List ByteArray) (have_20144 : List ByteArray), corbellaw11_StripeOne_l0 (fun y1 y2 y3 y5 => corbellaw11_StripeOne_l0_E0 K which_20138 y1 y2 y3 haveN_20143 y5) k lb_20137 j i_20139 ra_20140 rb_20141 rc_20142 have_20144 = iter corbellaw11_StripeOne_c0 corbellaw11_StripeOne_x0 (ev tab (corbellaw11_StripeOne_F k) (inlK tab (corbellaw11_StripeOne_F k) (corbellaw11_StripeOne_I k) 0) (corbellaw11_StripeOne_O k) (obB corbellaw11_StripeOne_b 0) (obH corbellaw11_StripeOne_b 0)) j (corbellaw11_StripeOne_l0_S la_20136 lb_20137 which_20138 i_20139 ra_20140 rb_20141 rc_20142 haveN_20143 have_20144) K
  | 0, _, _, _, _, _ => rfl
  | j + 1, i_20139, ra_20140, rb_20141, rc_20142, have_20144 => by
    have e : corbellaw11_StripeOne_l0 (fun y1 y2 y3 y5 => corbellaw11_StripeOne_l0_E0 K which_20138 y1 y2 y3 haveN_20143 y5) k lb_20137 j = fun i_20139 ra_20140 rb_20141 rc_20142 have_20144 => iter corbellaw11_StripeOne_c0 corbellaw11_StripeOne_x0 (ev tab (corbellaw11_StripeOne_F k) (inlK tab (corbellaw11_StripeOne_F k) (corbellaw11_StripeOne_I k) 0) (corbellaw11_StripeOne_O k) (obB corbellaw11_StripeOne_b 0) (obH corbellaw11_StripeOne_b 0)) j (corbellaw11_StripeOne_l0_S la_20136 lb_20137 which_20138 i_20139 ra_20140 rb_20141 rc_20142 haveN_20143 have_20144) K := by funext i_20139 ra_20140 rb_20141 rc_20142 have_20144; exact corbellaw11_StripeOne_l0_eq k K la_20136 lb_20137 which_20138 haveN_20143 j i_20139 ra_20140 rb_20141 rc_20142 have_20144
    show corbellaw11_StripeOne_l0s (corbellaw11_StripeOne_l0 (fun y1 y2 y3 y5 => corbellaw11_StripeOne_l0_E0 K which_20138 y1 y2 y3 haveN_20143 y5) k lb_20137 j) (fun y1 y2 y3 y5 => corbellaw11_StripeOne_l0_E0 K which_20138 y1 y2 y3 haveN_20143 y5) k lb_20137 i_20139 ra_20140 rb_20141 rc_20142 have_20144 = _
    rw [e, iter_succ]; kernel_rfl
theorem corbellaw11_StripeOne_l0_ok {R : Type} (k : Nat)  : ObOK (R := R) tab (corbellaw11_StripeOne_F k) (inlK tab (corbellaw11_StripeOne_F k) (corbellaw11_StripeOne_I k) 0) (corbellaw11_StripeOne_O k) (.loop corbellaw11_StripeOne_c0 corbellaw11_StripeOne_x0 0 (obB corbellaw11_StripeOne_b 0) (obH corbellaw11_StripeOne_b 0)) :=
  loop_ok (l := [corbellaw11_StripeOne_l0_a k]) (by kernel_rfl) ⟨(fun K x => ⟨k, (corbellaw11_StripeOne_l0_eq k K x.1.1.1 x.1.1.2 x.1.2.1 x.2.2.2.1.1 k x.1.2.2.2.2.1 x.2.2.1.1 x.2.2.1.2.1.1 x.2.2.1.2.1.2 x.2.2.2.1.2).trans (by kernel_rfl)⟩), trivial⟩
theorem corbellaw11_StripeOne_j1_eq {R : Type} (k : Nat) (K : EX → St → Option R) (which_20175 : Int) (s_20176 : ByteArray) (e_20177 : Int) (ha_20178 : Int) (hb_20179 : Bool) (hc_20180 : List ByteArray) (haveN_20181 : Bool) (have_20182 : List ByteArray) (inN_20183 : Bool) (in_20184 : List ByteArray) : corbellaw11_StripeOne_j1 (corbellaw11_StripeOne_j1_E0 K) k which_20175 s_20176 e_20177 have_20182 in_20184 = ev tab (corbellaw11_StripeOne_F k) (inlK tab (corbellaw11_StripeOne_F k) (corbellaw11_StripeOne_I k) 0) (corbellaw11_StripeOne_O k) (obB corbellaw11_StripeOne_b 1) (obH corbellaw11_StripeOne_b 1) (corbellaw11_StripeOne_j1_S which_20175 s_20176 e_20177 ha_20178 hb_20179 hc_20180 haveN_20181 have_20182 inN_20183 in_20184) (fun e st => optb (clean corbellaw11_StripeOne_x1 st) fun st => K e st) := by kernel_rfl
theorem corbellaw11_StripeOne_j1_ok {R : Type} (k : Nat)  : ObOK (R := R) tab (corbellaw11_StripeOne_F k) (inlK tab (corbellaw11_StripeOne_F k) (corbellaw11_StripeOne_I k) 0) (corbellaw11_StripeOne_O k) (.join corbellaw11_StripeOne_c1 corbellaw11_StripeOne_x1 1 (obB corbellaw11_StripeOne_b 1) (obH corbellaw11_StripeOne_b 1)) :=
  join_ok (l := [corbellaw11_StripeOne_j1_a k]) (by kernel_rfl) ⟨(fun K x => (corbellaw11_StripeOne_j1_eq k K x.1.1 x.1.2.2.2.1 x.1.2.2.2.2.1 x.2.2.1.1 x.2.2.1.2.1.1 x.2.2.1.2.1.2 x.2.2.2.1.1 x.2.2.2.1.2 x.2.2.2.2.1.1 x.2.2.2.2.1.2).trans (by kernel_rfl)), trivial⟩
theorem corbellaw11_StripeOne_cuts {R : Type} (k : Nat) : ∀ c, Try.f5.body = some c → CutsOK (R := R) tab (corbellaw11_StripeOne_F k) (inlK tab (corbellaw11_StripeOne_F k) (corbellaw11_StripeOne_I k) 0) (corbellaw11_StripeOne_O k) c corbellaw11_StripeOne_h :=
  cuts_of (l := [.loop corbellaw11_StripeOne_c0 corbellaw11_StripeOne_x0 0 (obB corbellaw11_StripeOne_b 0) (obH corbellaw11_StripeOne_b 0), .join corbellaw11_StripeOne_c1 corbellaw11_StripeOne_x1 1 (obB corbellaw11_StripeOne_b 1) (obH corbellaw11_StripeOne_b 1)]) (by kernel_rfl) ⟨corbellaw11_StripeOne_l0_ok k, corbellaw11_StripeOne_j1_ok k, trivial⟩
theorem corbellaw11_StripeOne_iok {R : Type} (k : Nat) : IOK Try.prog tab (corbellaw11_StripeOne_F k) (corbellaw11_StripeOne_I (R := R) k) := iok_none
theorem corbellaw11_StripeOne_ev (k : Nat) (x : (corbellaw11_StripeOne_p k).τ.den) : evalF tab (corbellaw11_StripeOne_F k) (corbellaw11_StripeOne_p k) (corbellaw11_StripeOne_I k) 0 (corbellaw11_StripeOne_O k) corbellaw11_StripeOne_h Try.f5 x = (corbellaw11_StripeOne_p k).f x := by kernel_rfl
theorem corbellaw11_StripeOne_ok (k : Nat) : PFOK Try.prog tab 5 (corbellaw11_StripeOne_p k) := pfok mixed tabOK (corbellaw11_StripeOne_fok k) Try.func5 (I := corbellaw11_StripeOne_I k) (d := 0) (corbellaw11_StripeOne_iok k) (Q := corbellaw11_StripeOne_O k) (hi := corbellaw11_StripeOne_h) (corbellaw11_StripeOne_cuts k) (corbellaw11_StripeOne_ev k)
end Go.Proofs.Ytbgcfcojepfdbaa.Ev
