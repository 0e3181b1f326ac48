/- book_Book_Free, told on plain data. Written by program. -/
import Derived.Test.YthilffdaofaalaaEtab
set_option linter.unusedVariables false
set_option maxRecDepth 1000000
namespace Go.Proofs.Ythilffdaofaalaa.Ev
open Go Go.RowKit Go.Proofs
def book_Book_Free_i71_3_l0s {R : Type} (rc : Int → Option R) (e0 : Int → Option R) (e1 : Option R) (k : Nat) (sb_8199 : List (Int × (Int × Int))) (v_8200 : Int) (h_8214 : Int) (v_8201 : Int) : Option R :=
  bif (decide (v_8201 < v_8200)) then
    bif (decide ((0 : Int) ≤ v_8201)) then
      optb (sb_8199[v_8201.toNat]?) fun x_8217 =>
      bif (decide (x_8217.1 = h_8214)) then
        e0 v_8201
      else rc (wrap64 (v_8201 + (1 : Int)))
    else none
  else e1
def book_Book_Free_i71_3_l0 {R : Type} (e0 : Int → Option R) (e1 : Option R) (k : Nat) (sb_8199 : List (Int × (Int × Int))) (v_8200 : Int) (h_8214 : Int) : Nat → Int → Option R
  | 0 => fun _ => none
  | j + 1 => book_Book_Free_i71_3_l0s (book_Book_Free_i71_3_l0 e0 e1 k sb_8199 v_8200 h_8214 j) e0 e1 k sb_8199 v_8200 h_8214
def book_Book_Free_l0s {R : Type} (rc : Int → Option R) (e0 : Int → Option R) (e1 : Option R) (k : Nat) (bc_8187 : List (Int × (Int × Int))) (gb_8193 : Int) (p_8197 : Int) : Option R :=
  bif (decide (p_8197 < gb_8193)) then
    book_Book_Free_i71_3_l0 (fun v_8218 =>
      bif (!(decide ((0 : Int) ≤ v_8218))) then
        e0 p_8197
      else rc (wrap64 (p_8197 + (1 : Int)))) (e0 p_8197) k bc_8187 (lenI bc_8187) p_8197 k (0 : Int)
  else e1
def book_Book_Free_l0 {R : Type} (e0 : Int → Option R) (e1 : Option R) (k : Nat) (bc_8187 : List (Int × (Int × Int))) (gb_8193 : Int) : Nat → Int → Option R
  | 0 => fun _ => none
  | j + 1 => book_Book_Free_l0s (book_Book_Free_l0 e0 e1 k bc_8187 gb_8193 j) e0 e1 k bc_8187 gb_8193
def book_Book_Free (k : Nat) (ba_8033 : Int) (bb_8034 : Bool) (bc_8035 : List (Int × (Int × Int))) (bd_8036 : Bool) (be_8037 : List Int) (bf_8038 : Int) (bg_8039 : Int) (ga_8040 : Int) (gb_8041 : Int) (gc_8042 : Int) (gd_8043 : Int) (ge_8044 : Int) : Option Int :=
  book_Book_Free_l0 (fun v_8245 =>
    some v_8245) (some (-1 : Int)) k bc_8035 gb_8041 k (2 : Int)
def book_Book_Free_p (k : Nat) : PF := { ps := [(true, 5), (true, 5)], rs := [(false, 1)], τ := (.pair (.pair (.int .i64) (.pair (.sl (.pair (.int .i64) (.pair (.int .i64) (.int .i64)))) (.pair (.sl (.int .i64)) (.pair (.int .i64) (.int .i64))))) (.pair (.int .i64) (.pair (.int .i64) (.pair (.int .i64) (.pair (.int .i64) (.int .i64)))))), σ := (.int .i64), f := fun x => book_Book_Free k x.1.1 x.1.2.1.1 x.1.2.1.2 x.1.2.2.1.1 x.1.2.2.1.2 x.1.2.2.2.1 x.1.2.2.2.2 x.2.1 x.2.2.1 x.2.2.2.1 x.2.2.2.2.1 x.2.2.2.2.2 }
def book_Book_Free_F (k : Nat) : PT := fnone
theorem book_Book_Free_fok (k : Nat) : FOK Try.prog tab (book_Book_Free_F k) := fok_none
def book_Book_Free_c0 : Cl := { keep := [2, 3, 5], hl := 3, ad := [], adc := [], bump := [], sw := [(5, 2)] }
def book_Book_Free_x0 : Cl := { keep := [4], hl := 0, ad := [], adc := [], bump := [] }
def book_Book_Free_h : Hint := (.sq .no (.sq (.sq .no (.lp book_Book_Free_c0 book_Book_Free_x0 0 .no)) .no))
def book_Book_Free_l0_E0 {R : Type} (K : EX → St → Option R) : Int → Option R := fun v0 => K .ret (mkSt 19 [] book_Book_Free_x0.keep [.int .i64 v0] [])
def book_Book_Free_l0_E1 {R : Type} (K : EX → St → Option R) : Option R := K (.exit 0) (mkSt 19 [] book_Book_Free_x0.keep [.junk] [])
def book_Book_Free_l0_S (ba_8185 : Int) (bb_8186 : Bool) (bc_8187 : List (Int × (Int × Int))) (bd_8188 : Bool) (be_8189 : List Int) (bf_8190 : Int) (bg_8191 : Int) (ga_8192 : Int) (gb_8193 : Int) (gc_8194 : Int) (gd_8195 : Int) (ge_8196 : Int) (p_8197 : Int) : St := mkSt 19 [] book_Book_Free_c0.keep [.ptr 0 0, .ptr 1 0, .ptr 2 0] [.blk [.int .i64 ba_8185, .sl (.pair (.int .i64) (.pair (.int .i64) (.int .i64))) bb_8186 bc_8187, .sl (.int .i64) bd_8188 be_8189, .int .i64 bf_8190, .int .i64 bg_8191], .blk [.int .i64 ga_8192, .int .i64 gb_8193, .int .i64 gc_8194, .int .i64 gd_8195, .int .i64 ge_8196], .blk [.int .i64 p_8197]]
def book_Book_Free_l0_sh : Rd (List AV × List HE) := .pair (.cons (.ptr 0 0) (.cons (.ptr 1 0) (.cons (.ptr 2 0) Rd.nil))) (.cons (.blk (.cons (.int .i64) (.cons (.sl (.pair (.int .i64) (.pair (.int .i64) (.int .i64)))) (.cons (.sl (.int .i64)) (.cons (.int .i64) (.cons (.int .i64) Rd.nil)))))) (.cons (.blk (.cons (.int .i64) (.cons (.int .i64) (.cons (.int .i64) (.cons (.int .i64) (.cons (.int .i64) Rd.nil)))))) (.cons (.blk (.cons (.int .i64) Rd.nil)) Rd.nil)))
def book_Book_Free_l0_a {R : Type} (k : Nat) : Alt R := { n := 19, v := [], sh := book_Book_Free_l0_sh, g := fun K x => book_Book_Free_l0 (book_Book_Free_l0_E0 K) (book_Book_Free_l0_E1 K) k x.2.1.2.1.2 x.2.2.1.2.1 k x.2.2.2.1.1 }
def book_Book_Free_O {R : Type} (k : Nat) : CutK R := cutsO [[book_Book_Free_l0_a k]]
noncomputable def book_Book_Free_b : List Ob := obs (bodyOf Try.f34) book_Book_Free_h
def book_Book_Free_i69_3_h : Hint := .no
def book_Book_Free_i69_3_O {R : Type} (k : Nat) : CutK R := cutsO []
def book_Book_Free_i71_3_c0 : Cl := { keep := [0, 1, 7, 8], hl := 3, ad := [], adc := [], bump := [] }
def book_Book_Free_i71_3_x0 : Cl := { keep := [4], hl := 3, ad := [], adc := [], bump := [] }
def book_Book_Free_i71_3_h : Hint := (.sq .no (.sq (.sq .no (.lp book_Book_Free_i71_3_c0 book_Book_Free_i71_3_x0 0 .no)) .no))
def book_Book_Free_i71_3_l0_E0 {R : Type} (K : EX → St → Option R) : Int → Int → Bool → List (Int × (Int × Int)) → Bool → List Int → Int → Int → Int → Int → Int → Int → Int → Int → Option R := fun v0 v1 v2 v3 v4 v5 v6 v7 v8 v9 v10 v11 v12 v13 => K .ret (mkSt 19 [1, 1, 1] book_Book_Free_i71_3_x0.keep [.int .i64 v0] [.blk [.int .i64 v1, .sl (.pair (.int .i64) (.pair (.int .i64) (.int .i64))) v2 v3, .sl (.int .i64) v4 v5, .int .i64 v6, .int .i64 v7], .blk [.int .i64 v8, .int .i64 v9, .int .i64 v10, .int .i64 v11, .int .i64 v12], .blk [.int .i64 v13]])
def book_Book_Free_i71_3_l0_E1 {R : Type} (K : EX → St → Option R) : Int → Bool → List (Int × (Int × Int)) → Bool → List Int → Int → Int → Int → Int → Int → Int → Int → Int → Option R := fun v0 v1 v2 v3 v4 v5 v6 v7 v8 v9 v10 v11 v12 => K (.exit 0) (mkSt 19 [1, 1, 1] book_Book_Free_i71_3_x0.keep [.junk] [.blk [.int .i64 v0, .sl (.pair (.int .i64) (.pair (.int .i64) (.int .i64))) v1 v2, .sl (.int .i64) v3 v4, .int .i64 v5, .int .i64 v6], .blk [.int .i64 v7, .int .i64 v8, .int .i64 v9, .int .i64 v10, .int .i64 v11], .blk [.int .i64 v12]])
def book_Book_Free_i71_3_l0_S (sa_8198 : Bool) (sb_8199 : List (Int × (Int × Int))) (v_8200 : Int) (v_8201 : Int) (ha_8202 : Int) (hb_8203 : Bool) (hc_8204 : List (Int × (Int × Int))) (hd_8205 : Bool) (he_8206 : List Int) (hf_8207 : Int) (hg_8208 : Int) (ha_8209 : Int) (hb_8210 : Int) (hc_8211 : Int) (hd_8212 : Int) (he_8213 : Int) (h_8214 : Int) : St := mkSt 19 [1, 1, 1] book_Book_Free_i71_3_c0.keep [.sl (.pair (.int .i64) (.pair (.int .i64) (.int .i64))) sa_8198 sb_8199, .fn (.func 70) [] [.ptr 2 0], .int .i64 v_8200, .int .i64 v_8201] [.blk [.int .i64 ha_8202, .sl (.pair (.int .i64) (.pair (.int .i64) (.int .i64))) hb_8203 hc_8204, .sl (.int .i64) hd_8205 he_8206, .int .i64 hf_8207, .int .i64 hg_8208], .blk [.int .i64 ha_8209, .int .i64 hb_8210, .int .i64 hc_8211, .int .i64 hd_8212, .int .i64 he_8213], .blk [.int .i64 h_8214]]
def book_Book_Free_i71_3_l0_sh : Rd (List AV × List HE) := .pair (.cons (.sl (.pair (.int .i64) (.pair (.int .i64) (.int .i64)))) (.cons (.fn 70 Rd.nil (.cons (.ptr 2 0) Rd.nil)) (.cons (.int .i64) (.cons (.int .i64) Rd.nil)))) (.cons (.blk (.cons (.int .i64) (.cons (.sl (.pair (.int .i64) (.pair (.int .i64) (.int .i64)))) (.cons (.sl (.int .i64)) (.cons (.int .i64) (.cons (.int .i64) Rd.nil)))))) (.cons (.blk (.cons (.int .i64) (.cons (.int .i64) (.cons (.int .i64) (.cons (.int .i64) (.cons (.int .i64) Rd.nil)))))) (.cons (.blk (.cons (.int .i64) Rd.nil)) Rd.nil)))
def book_Book_Free_i71_3_l0_a {R : Type} (k : Nat) : Alt R := { n := 19, v := [1, 1, 1], sh := book_Book_Free_i71_3_l0_sh, g := fun K x => book_Book_Free_i71_3_l0 (fun y0 => book_Book_Free_i71_3_l0_E0 K y0 x.2.1.1 x.2.1.2.1.1 x.2.1.2.1.2 x.2.1.2.2.1.1 x.2.1.2.2.1.2 x.2.1.2.2.2.1 x.2.1.2.2.2.2.1 x.2.2.1.1 x.2.2.1.2.1 x.2.2.1.2.2.1 x.2.2.1.2.2.2.1 x.2.2.1.2.2.2.2.1 x.2.2.2.1.1) (book_Book_Free_i71_3_l0_E1 K x.2.1.1 x.2.1.2.1.1 x.2.1.2.1.2 x.2.1.2.2.1.1 x.2.1.2.2.1.2 x.2.1.2.2.2.1 x.2.1.2.2.2.2.1 x.2.2.1.1 x.2.2.1.2.1 x.2.2.1.2.2.1 x.2.2.1.2.2.2.1 x.2.2.1.2.2.2.2.1 x.2.2.2.1.1) k x.1.1.2 x.1.2.2.1 x.2.2.2.1.1 k x.1.2.2.2.1 }
def book_Book_Free_i71_3_O {R : Type} (k : Nat) : CutK R := cutsO [[book_Book_Free_i71_3_l0_a k]]
noncomputable def book_Book_Free_i71_3_b : List Ob := obs (bodyOf Try.f71) book_Book_Free_i71_3_h
def book_Book_Free_i70_3_h : Hint := .no
def book_Book_Free_i70_3_O {R : Type} (k : Nat) : CutK R := cutsO []
noncomputable def book_Book_Free_I {R : Type} (k : Nat) : InlT R := icons 69 3 (book_Book_Free_i69_3_h, Try.f69, deepO 2 (book_Book_Free_i69_3_O k)) <| icons 71 3 (book_Book_Free_i71_3_h, Try.f71, deepO 1 (book_Book_Free_i71_3_O k)) <| icons 70 3 (book_Book_Free_i70_3_h, Try.f70, deepO 0 (book_Book_Free_i70_3_O k)) <| inone
theorem book_Book_Free_l0_eq {R : Type} (k : Nat) (K : EX → St → Option R) (ba_8185 : Int) (bb_8186 : Bool) (bc_8187 : List (Int × (Int × Int))) (bd_8188 : Bool) (be_8189 : List Int) (bf_8190 : Int) (bg_8191 : Int) (ga_8192 : Int) (gb_8193 : Int) (gc_8194 : Int) (gd_8195 : Int) (ge_8196 : Int) : ∀ (j : Nat) (p_8197 : Int), book_Book_Free_l0 (book_Book_Free_l0_E0 K) (book_Book_Free_l0_E1 K) k bc_8187 gb_8193 j p_8197 = iter book_Book_Free_c0 book_Book_Free_x0 (ev tab (book_Book_Free_F k) (inlK tab (book_Book_Free_F k) (book_Book_Free_I k) 3) (book_Book_Free_O k) (obB book_Book_Free_b 0) (obH book_Book_Free_b 0)) j (book_Book_Free_l0_S ba_8185 bb_8186 bc_8187 bd_8188 be_8189 bf_8190 bg_8191 ga_8192 gb_8193 gc_8194 gd_8195 ge_8196 p_8197) K
  | 0, _ => rfl
  | j + 1, p_8197 => by
    have e : book_Book_Free_l0 (book_Book_Free_l0_E0 K) (book_Book_Free_l0_E1 K) k bc_8187 gb_8193 j = fun p_8197 => iter book_Book_Free_c0 book_Book_Free_x0 (ev tab (book_Book_Free_F k) (inlK tab (book_Book_Free_F k) (book_Book_Free_I k) 3) (book_Book_Free_O k) (obB book_Book_Free_b 0) (obH book_Book_Free_b 0)) j (book_Book_Free_l0_S ba_8185 bb_8186 bc_8187 bd_8188 be_8189 bf_8190 bg_8191 ga_8192 gb_8193 gc_8194 gd_8195 ge_8196 p_8197) K := by funext p_8197; exact book_Book_Free_l0_eq k K ba_8185 bb_8186 bc_8187 bd_8188 be_8189 bf_8190 bg_8191 ga_8192 gb_8193 gc_8194 gd_8195 ge_8196 j p_8197
    show book_Book_Free_l0s (book_Book_Free_l0 (book_Book_Free_l0_E0 K) (book_Book_Free_l0_E1 K) k bc_8187 gb_8193 j) (book_Book_Free_l0_E0 K) (book_Book_Free_l0_E1 K) k bc_8187 gb_8193 p_8197 = _
    rw [e, iter_succ]; kernel_rfl
theorem book_Book_Free_l0_ok {R : Type} (k : Nat)  : ObOK (R := R) tab (book_Book_Free_F k) (inlK tab (book_Book_Free_F k) (book_Book_Free_I k) 3) (book_Book_Free_O k) (.loop book_Book_Free_c0 book_Book_Free_x0 0 (obB book_Book_Free_b 0) (obH book_Book_Free_b 0)) :=
  loop_ok (l := [book_Book_Free_l0_a k]) (by kernel_rfl) ⟨(fun K x => ⟨k, (book_Book_Free_l0_eq k K x.2.1.1 x.2.1.2.1.1 x.2.1.2.1.2 x.2.1.2.2.1.1 x.2.1.2.2.1.2 x.2.1.2.2.2.1 x.2.1.2.2.2.2.1 x.2.2.1.1 x.2.2.1.2.1 x.2.2.1.2.2.1 x.2.2.1.2.2.2.1 x.2.2.1.2.2.2.2.1 k x.2.2.2.1.1).trans (by kernel_rfl)⟩), trivial⟩
theorem book_Book_Free_cuts {R : Type} (k : Nat) : ∀ c, Try.f34.body = some c → CutsOK (R := R) tab (book_Book_Free_F k) (inlK tab (book_Book_Free_F k) (book_Book_Free_I k) 3) (book_Book_Free_O k) c book_Book_Free_h :=
  cuts_of (l := [.loop book_Book_Free_c0 book_Book_Free_x0 0 (obB book_Book_Free_b 0) (obH book_Book_Free_b 0)]) (by kernel_rfl) ⟨book_Book_Free_l0_ok k, trivial⟩
theorem book_Book_Free_i71_3_l0_eq {R : Type} (k : Nat) (d : Nat) (K : EX → St → Option R) (sa_8198 : Bool) (sb_8199 : List (Int × (Int × Int))) (v_8200 : Int) (ha_8202 : Int) (hb_8203 : Bool) (hc_8204 : List (Int × (Int × Int))) (hd_8205 : Bool) (he_8206 : List Int) (hf_8207 : Int) (hg_8208 : Int) (ha_8209 : Int) (hb_8210 : Int) (hc_8211 : Int) (hd_8212 : Int) (he_8213 : Int) (h_8214 : Int) : ∀ (j : Nat) (v_8201 : Int), book_Book_Free_i71_3_l0 (fun y0 => book_Book_Free_i71_3_l0_E0 K y0 ha_8202 hb_8203 hc_8204 hd_8205 he_8206 hf_8207 hg_8208 ha_8209 hb_8210 hc_8211 hd_8212 he_8213 h_8214) (book_Book_Free_i71_3_l0_E1 K ha_8202 hb_8203 hc_8204 hd_8205 he_8206 hf_8207 hg_8208 ha_8209 hb_8210 hc_8211 hd_8212 he_8213 h_8214) k sb_8199 v_8200 h_8214 j v_8201 = iter book_Book_Free_i71_3_c0 book_Book_Free_i71_3_x0 (ev tab (book_Book_Free_F k) (inlK tab (book_Book_Free_F k) (book_Book_Free_I k) (d + 1)) (deepO 1 (book_Book_Free_i71_3_O k) (d + 1)) (obB book_Book_Free_i71_3_b 0) (obH book_Book_Free_i71_3_b 0)) j (book_Book_Free_i71_3_l0_S sa_8198 sb_8199 v_8200 v_8201 ha_8202 hb_8203 hc_8204 hd_8205 he_8206 hf_8207 hg_8208 ha_8209 hb_8210 hc_8211 hd_8212 he_8213 h_8214) K
  | 0, _ => rfl
  | j + 1, v_8201 => by
    have e : book_Book_Free_i71_3_l0 (fun y0 => book_Book_Free_i71_3_l0_E0 K y0 ha_8202 hb_8203 hc_8204 hd_8205 he_8206 hf_8207 hg_8208 ha_8209 hb_8210 hc_8211 hd_8212 he_8213 h_8214) (book_Book_Free_i71_3_l0_E1 K ha_8202 hb_8203 hc_8204 hd_8205 he_8206 hf_8207 hg_8208 ha_8209 hb_8210 hc_8211 hd_8212 he_8213 h_8214) k sb_8199 v_8200 h_8214 j = fun v_8201 => iter book_Book_Free_i71_3_c0 book_Book_Free_i71_3_x0 (ev tab (book_Book_Free_F k) (inlK tab (book_Book_Free_F k) (book_Book_Free_I k) (d + 1)) (deepO 1 (book_Book_Free_i71_3_O k) (d + 1)) (obB book_Book_Free_i71_3_b 0) (obH book_Book_Free_i71_3_b 0)) j (book_Book_Free_i71_3_l0_S sa_8198 sb_8199 v_8200 v_8201 ha_8202 hb_8203 hc_8204 hd_8205 he_8206 hf_8207 hg_8208 ha_8209 hb_8210 hc_8211 hd_8212 he_8213 h_8214) K := by funext v_8201; exact book_Book_Free_i71_3_l0_eq k d K sa_8198 sb_8199 v_8200 ha_8202 hb_8203 hc_8204 hd_8205 he_8206 hf_8207 hg_8208 ha_8209 hb_8210 hc_8211 hd_8212 he_8213 h_8214 j v_8201
    show book_Book_Free_i71_3_l0s (book_Book_Free_i71_3_l0 (fun y0 => book_Book_Free_i71_3_l0_E0 K y0 ha_8202 hb_8203 hc_8204 hd_8205 he_8206 hf_8207 hg_8208 ha_8209 hb_8210 hc_8211 hd_8212 he_8213 h_8214) (book_Book_Free_i71_3_l0_E1 K ha_8202 hb_8203 hc_8204 hd_8205 he_8206 hf_8207 hg_8208 ha_8209 hb_8210 hc_8211 hd_8212 he_8213 h_8214) k sb_8199 v_8200 h_8214 j) (fun y0 => book_Book_Free_i71_3_l0_E0 K y0 ha_8202 hb_8203 hc_8204 hd_8205 he_8206 hf_8207 hg_8208 ha_8209 hb_8210 hc_8211 hd_8212 he_8213 h_8214) (book_Book_Free_i71_3_l0_E1 K ha_8202 hb_8203 hc_8204 hd_8205 he_8206 hf_8207 hg_8208 ha_8209 hb_8210 hc_8211 hd_8212 he_8213 h_8214) k sb_8199 v_8200 h_8214 v_8201 = _
    rw [e, iter_succ]; kernel_rfl
theorem book_Book_Free_i71_3_l0_ok {R : Type} (k : Nat) (d : Nat)  : ObOK (R := R) tab (book_Book_Free_F k) (inlK tab (book_Book_Free_F k) (book_Book_Free_I k) d) (deepO 1 (book_Book_Free_i71_3_O k) d) (.loop book_Book_Free_i71_3_c0 book_Book_Free_i71_3_x0 0 (obB book_Book_Free_i71_3_b 0) (obH book_Book_Free_i71_3_b 0)) :=
  deep_ob fun hd => by
    obtain ⟨d, rfl⟩ := Nat.exists_eq_add_of_le' hd
    exact loop_ok (l := [book_Book_Free_i71_3_l0_a k]) (by kernel_rfl) ⟨(fun K x => ⟨k, (book_Book_Free_i71_3_l0_eq k d K x.1.1.1 x.1.1.2 x.1.2.2.1 x.2.1.1 x.2.1.2.1.1 x.2.1.2.1.2 x.2.1.2.2.1.1 x.2.1.2.2.1.2 x.2.1.2.2.2.1 x.2.1.2.2.2.2.1 x.2.2.1.1 x.2.2.1.2.1 x.2.2.1.2.2.1 x.2.2.1.2.2.2.1 x.2.2.1.2.2.2.2.1 x.2.2.2.1.1 k x.1.2.2.2.1).trans (by kernel_rfl)⟩), trivial⟩
theorem book_Book_Free_i71_3_cuts {R : Type} (k : Nat) : ∀ (d : Nat), ∀ c, Try.f71.body = some c → CutsOK (R := R) tab (book_Book_Free_F k) (inlK tab (book_Book_Free_F k) (book_Book_Free_I k) d) (deepO 1 (book_Book_Free_i71_3_O k) d) c book_Book_Free_i71_3_h :=
  fun d => cuts_of (l := [.loop book_Book_Free_i71_3_c0 book_Book_Free_i71_3_x0 0 (obB book_Book_Free_i71_3_b 0) (obH book_Book_Free_i71_3_b 0)]) (by kernel_rfl) ⟨book_Book_Free_i71_3_l0_ok k d, trivial⟩
theorem book_Book_Free_iok {R : Type} (k : Nat) : IOK Try.prog tab (book_Book_Free_F k) (book_Book_Free_I (R := R) k) := iok_cons Try.func69 Try.call69 (plainO (by kernel_rfl)) <| iok_cons Try.func71 Try.call71 (book_Book_Free_i71_3_cuts k) <| iok_cons Try.func70 Try.call70 (plainO (by kernel_rfl)) <| iok_none
theorem book_Book_Free_ev (k : Nat) (x : (book_Book_Free_p k).τ.den) : evalF tab (book_Book_Free_F k) (book_Book_Free_p k) (book_Book_Free_I k) 3 (book_Book_Free_O k) book_Book_Free_h Try.f34 x = (book_Book_Free_p k).f x := by kernel_rfl
theorem book_Book_Free_ok (k : Nat) : PFOK Try.prog tab 34 (book_Book_Free_p k) := pfok mixed tabOK (book_Book_Free_fok k) Try.func34 (I := book_Book_Free_I k) (d := 3) (book_Book_Free_iok k) (Q := book_Book_Free_O k) (hi := book_Book_Free_h) (book_Book_Free_cuts k) (book_Book_Free_ev k)
end Go.Proofs.Ythilffdaofaalaa.Ev
