/- corbellaw02_CrcTurns, told on plain data. Written by program. -/
import Derived.Test.YtncdfikcdchimaaDoorEcorbellaw02_speaks
import Derived.Test.YtncdfikcdchimaaDoorEcrc_Turn
import Derived.Test.YtncdfikcdchimaaDoorEcrc_Sum
import Derived.Test.YtncdfikcdchimaaDoorEcorbelref02_Sum
set_option linter.unusedVariables false
set_option maxRecDepth 1000000
namespace Go.Proofs.YtncdfikcdchimaaDoor.Ev
open Go Go.RowKit Go.Proofs
def corbellaw02_CrcTurns_j0 {R : Type} (e0 : Bool → Option R) (e1 : Option R) (k : Nat) (v_168 : Bool) : Option R :=
  bif v_168 then
    e0 false
  else e1
def corbellaw02_CrcTurns_j2 {R : Type} (e0 : Bool → Option R) (e1 : Option R) (k : Nat) (v_182 : Bool) : Option R :=
  bif v_182 then
    e0 true
  else e1
def corbellaw02_CrcTurns_j3 {R : Type} (e0 : Bool → Option R) (k : Nat) (s_194 : ByteArray) (by_195 : Int) (at_196 : Int) (b_198 : List Int) : Option R :=
  optb (crc_Sum k false ([s_194] : List ByteArray)) fun r_228 =>
  optb (crc_Turn k (wrap64 ((wrap64 ((sizeI s_194) - (1 : Int))) - at_196)) by_195) fun r_230 =>
  optb (corbelref02_Sum k (bytesOf b_198)) fun r_231 =>
  e0 (decide ((bitop .xor .u32 r_228 r_230) = r_231))
def corbellaw02_CrcTurns_k2 {R : Type} (e0 : Bool → Option R) (k : Nat) : Bool → Option R := fun v_185 =>
  e0 v_185
def corbellaw02_CrcTurns_k3 {R : Type} (e0 : Bool → Option R) (k : Nat) (at_178 : Int) (by_177 : Int) (s_176 : ByteArray) : Option R := 
  bif (decide ((sizeI s_176) = (0 : Int))) then
    none
  else let z_190 := (wrap64 ((Int.tmod at_178 (sizeI s_176)) + (sizeI s_176)))
  bif (decide ((sizeI s_176) = (0 : Int))) then
    none
  else bif (decide (s_176.size ≤ 1099511627776)) then
    bif ((decide ((0 : Int) ≤ (Int.tmod z_190 (sizeI s_176)))) && (decide ((Int.tmod z_190 (sizeI s_176)) < (lenI (intsOf s_176))))) then
      optb ((intsOf s_176)[(Int.tmod z_190 (sizeI s_176)).toNat]?) fun x_191 =>
      bif ((decide ((0 : Int) ≤ (Int.tmod z_190 (sizeI s_176)))) && (decide ((Int.tmod z_190 (sizeI s_176)) < (lenI (intsOf s_176))))) then
        optb ((intsOf s_176)[(Int.tmod z_190 (sizeI s_176)).toNat]?) fun x_192 =>
        corbellaw02_CrcTurns_j3 (fun v_233 =>
          e0 v_233) k s_176 by_177 (Int.tmod z_190 (sizeI s_176)) (List.set (intsOf s_176) (Int.tmod z_190 (sizeI s_176)).toNat (bitop .xor .u8 x_191 by_177))
      else none
    else none
  else none
def corbellaw02_CrcTurns_j1 {R : Type} (e0 : Bool → Option R) (k : Nat) (s_176 : ByteArray) (by_177 : Int) (at_178 : Int) : Option R :=
  bif (decide ((sizeI s_176) = (0 : Int))) then
    corbellaw02_CrcTurns_j2 (corbellaw02_CrcTurns_k2 e0 k) (corbellaw02_CrcTurns_k3 e0 k at_178 by_177 s_176) k true
  else corbellaw02_CrcTurns_j2 (corbellaw02_CrcTurns_k2 e0 k) (corbellaw02_CrcTurns_k3 e0 k at_178 by_177 s_176) k (decide ((5000 : Int) < (sizeI s_176)))
def corbellaw02_CrcTurns_k0 (k : Nat) : Bool → Option Bool := fun v_171 =>
  some v_171
def corbellaw02_CrcTurns_k1 (k : Nat) (by_4 : Int) (s_1 : ByteArray) (xa_2 : Int) : Option Bool := 
  corbellaw02_CrcTurns_j1 (fun v_234 =>
    some v_234) k s_1 by_4 xa_2
def corbellaw02_CrcTurns (k : Nat) (s_1 : ByteArray) (xa_2 : Int) (xb_3 : Int) (by_4 : Int) : Option Bool :=
  optb (corbellaw02_speaks k) fun r_163 =>
  bif (!r_163) then
    some false
  else bif (decide (xb_3 < (0 : Int))) then
    optb (crc_Turn k xb_3 by_4) fun r_164 =>
    corbellaw02_CrcTurns_j0 (corbellaw02_CrcTurns_k0 k) (corbellaw02_CrcTurns_k1 k by_4 s_1 xa_2) k (!(decide (r_164 = (0 : Int))))
  else bif (decide ((65536 : Int) < xb_3)) then
    optb (crc_Turn k xb_3 by_4) fun r_235 =>
    corbellaw02_CrcTurns_j0 (corbellaw02_CrcTurns_k0 k) (corbellaw02_CrcTurns_k1 k by_4 s_1 xa_2) k (!(decide (r_235 = (0 : Int))))
  else corbellaw02_CrcTurns_j0 (corbellaw02_CrcTurns_k0 k) (corbellaw02_CrcTurns_k1 k by_4 s_1 xa_2) k false
def corbellaw02_CrcTurns_p (k : Nat) : PF := { ps := [(false, 1), (true, 2), (false, 1)], rs := [(false, 1)], τ := (.pair .str (.pair (.pair (.int .i64) (.int .i64)) (.int .u8))), σ := .bool, f := fun x => corbellaw02_CrcTurns k x.1 x.2.1.1 x.2.1.2 x.2.2 }
def corbellaw02_CrcTurns_F (k : Nat) : PT := fcons 8 (corbellaw02_speaks_p k) <| fcons 11 (crc_Turn_p k) <| fcons 10 (crc_Sum_p k) <| fcons 9 (corbelref02_Sum_p k) <| fbase [(9, 30)] false
theorem corbellaw02_CrcTurns_fok (k : Nat) : FOK Tryd.prog tab (corbellaw02_CrcTurns_F k) := fok_cons (corbellaw02_speaks_ok k) Tryd.call8 <| fok_cons (crc_Turn_ok k) Tryd.call11 <| fok_cons (crc_Sum_ok k) Tryd.call10 <| fok_cons (corbelref02_Sum_ok k) Tryd.call9 <| fok_base
def corbellaw02_CrcTurns_c0 : Cl := { keep := [0, 2, 7, 27], hl := 0, ad := [], adc := [], bump := [] }
def corbellaw02_CrcTurns_x0 : Cl := { keep := [0, 2, 6, 7], hl := 0, ad := [], adc := [], bump := [] }
def corbellaw02_CrcTurns_c1 : Cl := { keep := [0, 2, 7], hl := 0, ad := [], adc := [], bump := [] }
def corbellaw02_CrcTurns_x1 : Cl := { keep := [6], hl := 0, ad := [], adc := [], bump := [] }
def corbellaw02_CrcTurns_c2 : Cl := { keep := [0, 2, 7, 35], hl := 0, ad := [], adc := [], bump := [] }
def corbellaw02_CrcTurns_x2 : Cl := { keep := [0, 2, 6, 7], hl := 0, ad := [], adc := [], bump := [] }
def corbellaw02_CrcTurns_c3 : Cl := { keep := [0, 2, 7, 9], hl := 1, ad := [], adc := [], bump := [] }
def corbellaw02_CrcTurns_x3 : Cl := { keep := [6], hl := 0, ad := [], adc := [], bump := [] }
def corbellaw02_CrcTurns_h : Hint := (.sq .no (.sq .no (.sq .no (.ct corbellaw02_CrcTurns_c1 corbellaw02_CrcTurns_x1 1 (.ct corbellaw02_CrcTurns_c0 corbellaw02_CrcTurns_x0 0 .no .no) (.sq (.ct corbellaw02_CrcTurns_c2 corbellaw02_CrcTurns_x2 2 .no .no) (.sq .no (.sq .no (.ct corbellaw02_CrcTurns_c3 corbellaw02_CrcTurns_x3 3 .no .no))))))))
def corbellaw02_CrcTurns_j0_E0 {R : Type} (K : EX → St → Option R) : ByteArray → Int → Bool → Int → Option R := fun v0 v1 v2 v3 => K .ret (mkSt 70 [] corbellaw02_CrcTurns_x0.keep [.str v0, .int .u8 v1, .bool v2, .int .i64 v3] [])
def corbellaw02_CrcTurns_j0_E1 {R : Type} (K : EX → St → Option R) : ByteArray → Int → Int → Option R := fun v0 v1 v2 => K .normal (mkSt 70 [] corbellaw02_CrcTurns_x0.keep [.str v0, .int .u8 v1, .junk, .int .i64 v2] [])
def corbellaw02_CrcTurns_j0_S (s_165 : ByteArray) (by_166 : Int) (at_167 : Int) (v_168 : Bool) : St := mkSt 70 [] corbellaw02_CrcTurns_c0.keep [.str s_165, .int .u8 by_166, .int .i64 at_167, .bool v_168] []
def corbellaw02_CrcTurns_j0_sh : Rd (List AV × List HE) := .pair (.cons .str (.cons (.int .u8) (.cons (.int .i64) (.cons .bool Rd.nil)))) Rd.nil
def corbellaw02_CrcTurns_j0_a {R : Type} (k : Nat) : Alt R := { n := 70, v := [], sh := corbellaw02_CrcTurns_j0_sh, g := fun K x => corbellaw02_CrcTurns_j0 (fun y2 => corbellaw02_CrcTurns_j0_E0 K x.1.1 x.1.2.1 y2 x.1.2.2.1) (corbellaw02_CrcTurns_j0_E1 K x.1.1 x.1.2.1 x.1.2.2.1) k x.1.2.2.2.1 }
def corbellaw02_CrcTurns_j1_E0 {R : Type} (K : EX → St → Option R) : Bool → Option R := fun v0 => K .ret (mkSt 70 [] corbellaw02_CrcTurns_x1.keep [.bool v0] [])
def corbellaw02_CrcTurns_j1_S (s_176 : ByteArray) (by_177 : Int) (at_178 : Int) : St := mkSt 70 [] corbellaw02_CrcTurns_c1.keep [.str s_176, .int .u8 by_177, .int .i64 at_178] []
def corbellaw02_CrcTurns_j1_sh : Rd (List AV × List HE) := .pair (.cons .str (.cons (.int .u8) (.cons (.int .i64) Rd.nil))) Rd.nil
def corbellaw02_CrcTurns_j1_a {R : Type} (k : Nat) : Alt R := { n := 70, v := [], sh := corbellaw02_CrcTurns_j1_sh, g := fun K x => corbellaw02_CrcTurns_j1 (corbellaw02_CrcTurns_j1_E0 K) k x.1.1 x.1.2.1 x.1.2.2.1 }
def corbellaw02_CrcTurns_j2_E0 {R : Type} (K : EX → St → Option R) : ByteArray → Int → Bool → Int → Option R := fun v0 v1 v2 v3 => K .ret (mkSt 70 [] corbellaw02_CrcTurns_x2.keep [.str v0, .int .u8 v1, .bool v2, .int .i64 v3] [])
def corbellaw02_CrcTurns_j2_E1 {R : Type} (K : EX → St → Option R) : ByteArray → Int → Int → Option R := fun v0 v1 v2 => K .normal (mkSt 70 [] corbellaw02_CrcTurns_x2.keep [.str v0, .int .u8 v1, .junk, .int .i64 v2] [])
def corbellaw02_CrcTurns_j2_S (s_179 : ByteArray) (by_180 : Int) (at_181 : Int) (v_182 : Bool) : St := mkSt 70 [] corbellaw02_CrcTurns_c2.keep [.str s_179, .int .u8 by_180, .int .i64 at_181, .bool v_182] []
def corbellaw02_CrcTurns_j2_sh : Rd (List AV × List HE) := .pair (.cons .str (.cons (.int .u8) (.cons (.int .i64) (.cons .bool Rd.nil)))) Rd.nil
def corbellaw02_CrcTurns_j2_a {R : Type} (k : Nat) : Alt R := { n := 70, v := [], sh := corbellaw02_CrcTurns_j2_sh, g := fun K x => corbellaw02_CrcTurns_j2 (fun y2 => corbellaw02_CrcTurns_j2_E0 K x.1.1 x.1.2.1 y2 x.1.2.2.1) (corbellaw02_CrcTurns_j2_E1 K x.1.1 x.1.2.1 x.1.2.2.1) k x.1.2.2.2.1 }
def corbellaw02_CrcTurns_j3_E0 {R : Type} (K : EX → St → Option R) : Bool → Option R := fun v0 => K .ret (mkSt 70 [] corbellaw02_CrcTurns_x3.keep [.bool v0] [])
def corbellaw02_CrcTurns_j3_S (s_194 : ByteArray) (by_195 : Int) (at_196 : Int) (bN_197 : Bool) (b_198 : List Int) : St := mkSt 70 [] corbellaw02_CrcTurns_c3.keep [.str s_194, .int .u8 by_195, .int .i64 at_196, .own 0 1] [.lst (.int .u8) 1099511627781 bN_197 1 b_198]
def corbellaw02_CrcTurns_j3_sh : Rd (List AV × List HE) := .pair (.cons .str (.cons (.int .u8) (.cons (.int .i64) (.cons (.own 0 1) Rd.nil)))) (.cons (.lst (.int .u8) 1099511627781 1) Rd.nil)
def corbellaw02_CrcTurns_j3_a {R : Type} (k : Nat) : Alt R := { n := 70, v := [], sh := corbellaw02_CrcTurns_j3_sh, g := fun K x => corbellaw02_CrcTurns_j3 (corbellaw02_CrcTurns_j3_E0 K) k x.1.1 x.1.2.1 x.1.2.2.1 x.2.1.2 }
def corbellaw02_CrcTurns_O {R : Type} (k : Nat) : CutK R := cutsO [[corbellaw02_CrcTurns_j0_a k], [corbellaw02_CrcTurns_j1_a k], [corbellaw02_CrcTurns_j2_a k], [corbellaw02_CrcTurns_j3_a k]]
noncomputable def corbellaw02_CrcTurns_b : List Ob := obs (bodyOf Tryd.f5) corbellaw02_CrcTurns_h
noncomputable def corbellaw02_CrcTurns_I {R : Type} (k : Nat) : InlT R := inone
theorem corbellaw02_CrcTurns_j0_eq {R : Type} (k : Nat) (K : EX → St → Option R) (s_165 : ByteArray) (by_166 : Int) (at_167 : Int) (v_168 : Bool) : corbellaw02_CrcTurns_j0 (fun y2 => corbellaw02_CrcTurns_j0_E0 K s_165 by_166 y2 at_167) (corbellaw02_CrcTurns_j0_E1 K s_165 by_166 at_167) k v_168 = ev tab (corbellaw02_CrcTurns_F k) (inlK tab (corbellaw02_CrcTurns_F k) (corbellaw02_CrcTurns_I k) 0) (corbellaw02_CrcTurns_O k) (obB corbellaw02_CrcTurns_b 0) (obH corbellaw02_CrcTurns_b 0) (corbellaw02_CrcTurns_j0_S s_165 by_166 at_167 v_168) (fun e st => optb (clean corbellaw02_CrcTurns_x0 st) fun st => K e st) := by kernel_rfl
theorem corbellaw02_CrcTurns_j0_ok {R : Type} (k : Nat)  : ObOK (R := R) tab (corbellaw02_CrcTurns_F k) (inlK tab (corbellaw02_CrcTurns_F k) (corbellaw02_CrcTurns_I k) 0) (corbellaw02_CrcTurns_O k) (.join corbellaw02_CrcTurns_c0 corbellaw02_CrcTurns_x0 0 (obB corbellaw02_CrcTurns_b 0) (obH corbellaw02_CrcTurns_b 0)) :=
  join_ok (l := [corbellaw02_CrcTurns_j0_a k]) (by kernel_rfl) ⟨(fun K x => (corbellaw02_CrcTurns_j0_eq k K x.1.1 x.1.2.1 x.1.2.2.1 x.1.2.2.2.1).trans (by kernel_rfl)), trivial⟩
theorem corbellaw02_CrcTurns_j1_eq {R : Type} (k : Nat) (K : EX → St → Option R) (s_176 : ByteArray) (by_177 : Int) (at_178 : Int) : corbellaw02_CrcTurns_j1 (corbellaw02_CrcTurns_j1_E0 K) k s_176 by_177 at_178 = ev tab (corbellaw02_CrcTurns_F k) (inlK tab (corbellaw02_CrcTurns_F k) (corbellaw02_CrcTurns_I k) 0) (corbellaw02_CrcTurns_O k) (obB corbellaw02_CrcTurns_b 1) (obH corbellaw02_CrcTurns_b 1) (corbellaw02_CrcTurns_j1_S s_176 by_177 at_178) (fun e st => optb (clean corbellaw02_CrcTurns_x1 st) fun st => K e st) := by kernel_rfl
theorem corbellaw02_CrcTurns_j1_ok {R : Type} (k : Nat)  : ObOK (R := R) tab (corbellaw02_CrcTurns_F k) (inlK tab (corbellaw02_CrcTurns_F k) (corbellaw02_CrcTurns_I k) 0) (corbellaw02_CrcTurns_O k) (.join corbellaw02_CrcTurns_c1 corbellaw02_CrcTurns_x1 1 (obB corbellaw02_CrcTurns_b 1) (obH corbellaw02_CrcTurns_b 1)) :=
  join_ok (l := [corbellaw02_CrcTurns_j1_a k]) (by kernel_rfl) ⟨(fun K x => (corbellaw02_CrcTurns_j1_eq k K x.1.1 x.1.2.1 x.1.2.2.1).trans (by kernel_rfl)), trivial⟩
theorem corbellaw02_CrcTurns_j2_eq {R : Type} (k : Nat) (K : EX → St → Option R) (s_179 : ByteArray) (by_180 : Int) (at_181 : Int) (v_182 : Bool) : corbellaw02_CrcTurns_j2 (fun y2 => corbellaw02_CrcTurns_j2_E0 K s_179 by_180 y2 at_181) (corbellaw02_CrcTurns_j2_E1 K s_179 by_180 at_181) k v_182 = ev tab (corbellaw02_CrcTurns_F k) (inlK tab (corbellaw02_CrcTurns_F k) (corbellaw02_CrcTurns_I k) 0) (corbellaw02_CrcTurns_O k) (obB corbellaw02_CrcTurns_b 2) (obH corbellaw02_CrcTurns_b 2) (corbellaw02_CrcTurns_j2_S s_179 by_180 at_181 v_182) (fun e st => optb (clean corbellaw02_CrcTurns_x2 st) fun st => K e st) := by kernel_rfl
theorem corbellaw02_CrcTurns_j2_ok {R : Type} (k : Nat)  : ObOK (R := R) tab (corbellaw02_CrcTurns_F k) (inlK tab (corbellaw02_CrcTurns_F k) (corbellaw02_CrcTurns_I k) 0) (corbellaw02_CrcTurns_O k) (.join corbellaw02_CrcTurns_c2 corbellaw02_CrcTurns_x2 2 (obB corbellaw02_CrcTurns_b 2) (obH corbellaw02_CrcTurns_b 2)) :=
  join_ok (l := [corbellaw02_CrcTurns_j2_a k]) (by kernel_rfl) ⟨(fun K x => (corbellaw02_CrcTurns_j2_eq k K x.1.1 x.1.2.1 x.1.2.2.1 x.1.2.2.2.1).trans (by kernel_rfl)), trivial⟩
theorem corbellaw02_CrcTurns_j3_eq {R : Type} (k : Nat) (K : EX → St → Option R) (s_194 : ByteArray) (by_195 : Int) (at_196 : Int) (bN_197 : Bool) (b_198 : List Int) : corbellaw02_CrcTurns_j3 (corbellaw02_CrcTurns_j3_E0 K) k s_194 by_195 at_196 b_198 = ev tab (corbellaw02_CrcTurns_F k) (inlK tab (corbellaw02_CrcTurns_F k) (corbellaw02_CrcTurns_I k) 0) (corbellaw02_CrcTurns_O k) (obB corbellaw02_CrcTurns_b 3) (obH corbellaw02_CrcTurns_b 3) (corbellaw02_CrcTurns_j3_S s_194 by_195 at_196 bN_197 b_198) (fun e st => optb (clean corbellaw02_CrcTurns_x3 st) fun st => K e st) := by kernel_rfl
theorem corbellaw02_CrcTurns_j3_ok {R : Type} (k : Nat)  : ObOK (R := R) tab (corbellaw02_CrcTurns_F k) (inlK tab (corbellaw02_CrcTurns_F k) (corbellaw02_CrcTurns_I k) 0) (corbellaw02_CrcTurns_O k) (.join corbellaw02_CrcTurns_c3 corbellaw02_CrcTurns_x3 3 (obB corbellaw02_CrcTurns_b 3) (obH corbellaw02_CrcTurns_b 3)) :=
  join_ok (l := [corbellaw02_CrcTurns_j3_a k]) (by kernel_rfl) ⟨(fun K x => (corbellaw02_CrcTurns_j3_eq k K x.1.1 x.1.2.1 x.1.2.2.1 x.2.1.1 x.2.1.2).trans (by kernel_rfl)), trivial⟩
theorem corbellaw02_CrcTurns_cuts {R : Type} (k : Nat) : ∀ c, Tryd.f5.body = some c → CutsOK (R := R) tab (corbellaw02_CrcTurns_F k) (inlK tab (corbellaw02_CrcTurns_F k) (corbellaw02_CrcTurns_I k) 0) (corbellaw02_CrcTurns_O k) c corbellaw02_CrcTurns_h :=
  cuts_of (l := [.join corbellaw02_CrcTurns_c0 corbellaw02_CrcTurns_x0 0 (obB corbellaw02_CrcTurns_b 0) (obH corbellaw02_CrcTurns_b 0), .join corbellaw02_CrcTurns_c1 corbellaw02_CrcTurns_x1 1 (obB corbellaw02_CrcTurns_b 1) (obH corbellaw02_CrcTurns_b 1), .join corbellaw02_CrcTurns_c2 corbellaw02_CrcTurns_x2 2 (obB corbellaw02_CrcTurns_b 2) (obH corbellaw02_CrcTurns_b 2), .join corbellaw02_CrcTurns_c3 corbellaw02_CrcTurns_x3 3 (obB corbellaw02_CrcTurns_b 3) (obH corbellaw02_CrcTurns_b 3)]) (by kernel_rfl) ⟨corbellaw02_CrcTurns_j0_ok k, corbellaw02_CrcTurns_j1_ok k, corbellaw02_CrcTurns_j2_ok k, corbellaw02_CrcTurns_j3_ok k, trivial⟩
theorem corbellaw02_CrcTurns_iok {R : Type} (k : Nat) : IOK Tryd.prog tab (corbellaw02_CrcTurns_F k) (corbellaw02_CrcTurns_I (R := R) k) := iok_none
theorem corbellaw02_CrcTurns_ev (k : Nat) (x : (corbellaw02_CrcTurns_p k).τ.den) : evalF tab (corbellaw02_CrcTurns_F k) (corbellaw02_CrcTurns_p k) (corbellaw02_CrcTurns_I k) 0 (corbellaw02_CrcTurns_O k) corbellaw02_CrcTurns_h Tryd.f5 x = (corbellaw02_CrcTurns_p k).f x := by kernel_rfl
theorem corbellaw02_CrcTurns_ok (k : Nat) : PFOK Tryd.prog tab 5 (corbellaw02_CrcTurns_p k) := pfok mixed tabOK (corbellaw02_CrcTurns_fok k) Tryd.func5 (I := corbellaw02_CrcTurns_I k) (d := 0) (corbellaw02_CrcTurns_iok k) (Q := corbellaw02_CrcTurns_O k) (hi := corbellaw02_CrcTurns_h) (corbellaw02_CrcTurns_cuts k) (corbellaw02_CrcTurns_ev k)
end Go.Proofs.YtncdfikcdchimaaDoor.Ev
