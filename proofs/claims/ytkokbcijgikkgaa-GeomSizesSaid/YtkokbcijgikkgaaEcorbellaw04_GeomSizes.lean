/- corbellaw04_GeomSizes, told on plain data. Written by program. -/
import Derived.Test.YtkokbcijgikkgaaEcorbellaw04_speaks
import Derived.Test.YtkokbcijgikkgaaEgeom_Split
import Derived.Test.YtkokbcijgikkgaaEcorbelref04_Good
import Derived.Test.YtkokbcijgikkgaaEgeom_Zones
import Derived.Test.YtkokbcijgikkgaaEgeom_Capacity
import Derived.Test.YtkokbcijgikkgaaEgeom_Parity
set_option linter.unusedVariables false
set_option maxRecDepth 1000000
namespace Go.Proofs.Ytkokbcijgikkgaa.Ev
open Go Go.RowKit Go.Proofs
def corbellaw04_GeomSizes_j0 {R : Type} (e0 : Int → Int → Int → Int → Bool → Int → Int → Int → Int → Int → Int → Int → Int → Int → Int → Int → Int → Int → Option R) (k : Nat) (v_218 : Int) (v_219 : Int) (v_220 : Int) (v_221 : Int) (v_222 : Bool) (v_223 : Int) (v_224 : Int) (v_225 : Int) (v_226 : Bool) (v_227 : Int) (v_228 : Int) (v_229 : Int) (v_230 : Int) (v_231 : Int) (v_232 : Int) (v_233 : Int) (v_234 : Int) (v_235 : Int) (v_236 : Int) : Option R :=
  bif v_226 then
    bif (decide (v_227 = (0 : Int))) then
      none
    else e0 v_218 v_219 v_220 v_221 v_222 v_223 v_224 (Int.tmod (wrap64 (v_218 + v_219)) v_227) v_227 v_228 v_229 v_230 v_231 v_232 v_233 v_234 v_235 v_236
  else e0 v_218 v_219 v_220 v_221 v_222 v_223 v_224 v_225 v_227 v_228 v_229 v_230 v_231 v_232 v_233 v_234 v_235 v_236
def corbellaw04_GeomSizes_j2 {R : Type} (e0 : Int → Bool → Int → Int → Bool → Int → Int → Option R) (e1 : Int → Int → Int → Bool → Int → Int → Option R) (k : Nat) (v_280 : Int) (v_281 : Int) (v_282 : Int) (v_283 : Bool) (v_284 : Int) (v_285 : Int) (v_286 : Bool) : Option R :=
  bif v_286 then
    e0 v_280 false v_281 v_282 v_283 v_284 v_285
  else e1 v_280 v_281 v_282 v_283 v_284 v_285
def corbellaw04_GeomSizes_j3 {R : Type} (e0 : Int → Bool → Int → Int → Bool → Int → Option R) (e1 : Int → Int → Int → Bool → Int → Option R) (k : Nat) (v_300 : Int) (v_301 : Int) (v_302 : Int) (v_303 : Bool) (v_304 : Int) (v_305 : Bool) : Option R :=
  bif v_305 then
    bif (decide (v_301 = (0 : Int))) then
      bif (decide (v_302 = (0 : Int))) then
        e0 v_300 (!v_303) v_301 v_302 v_303 v_304
      else e0 v_300 false v_301 v_302 v_303 v_304
    else e0 v_300 false v_301 v_302 v_303 v_304
  else e1 v_300 v_301 v_302 v_303 v_304
def corbellaw04_GeomSizes_k1 {R : Type} (e0 : Bool → Option R) (k : Nat) : Int → Bool → Int → Int → Bool → Int → Int → Option R := fun v_287 v_288 v_289 v_290 v_291 v_292 v_293 =>
  e0 v_288
def corbellaw04_GeomSizes_k3 {R : Type} (e0 : Bool → Option R) (k : Nat) : Int → Bool → Int → Int → Bool → Int → Option R := fun v_306 v_307 v_308 v_309 v_310 v_311 =>
  e0 v_307
def corbellaw04_GeomSizes_k4 {R : Type} (e0 : Bool → Option R) (k : Nat) : Int → Int → Int → Bool → Int → Option R := fun v_312 v_313 v_314 v_315 v_316 =>
  bif v_315 then
    bif (decide (v_316 = (0 : Int))) then
      none
    else bif (decide (v_313 = (wrap64 (Int.tdiv v_312 v_316)))) then
      bif (decide (v_316 = (0 : Int))) then
        none
      else e0 (decide (v_314 = (Int.tmod v_312 v_316)))
    else e0 false
  else e0 false
def corbellaw04_GeomSizes_k2 {R : Type} (e0 : Bool → Option R) (k : Nat) : Int → Int → Int → Bool → Int → Int → Option R := fun v_294 v_295 v_296 v_297 v_298 v_299 =>
  bif (decide (v_294 < (0 : Int))) then
    corbellaw04_GeomSizes_j3 (corbellaw04_GeomSizes_k3 e0 k) (corbellaw04_GeomSizes_k4 e0 k) k v_294 v_295 v_296 v_297 v_299 true
  else corbellaw04_GeomSizes_j3 (corbellaw04_GeomSizes_k3 e0 k) (corbellaw04_GeomSizes_k4 e0 k) k v_294 v_295 v_296 v_297 v_299 (decide ((wrap64 (v_298 * v_299)) ≤ v_294))
def corbellaw04_GeomSizes_j1 {R : Type} (e0 : Bool → Option R) (k : Nat) (v_255 : Int) (v_256 : Int) (v_257 : Int) (v_258 : Int) (v_259 : Bool) (v_260 : Int) (v_261 : Int) (v_262 : Int) (v_263 : Int) (v_264 : Int) (v_265 : Int) (v_266 : Int) (v_267 : Int) (v_268 : Int) (v_269 : Int) (v_270 : Int) (v_271 : Int) (v_272 : Int) : Option R :=
  optb (geom_Zones k v_268 v_269 v_270 v_271 v_272) fun r_279 =>
  bif (!(decide (r_279 = v_260))) then
    corbellaw04_GeomSizes_j2 (corbellaw04_GeomSizes_k1 e0 k) (corbellaw04_GeomSizes_k2 e0 k) k v_256 v_257 v_258 v_259 v_260 v_261 true
  else optb (geom_Capacity k v_268 v_269 v_270 v_271 v_272) fun r_318 =>
  bif (!(decide (r_318 = v_261))) then
    corbellaw04_GeomSizes_j2 (corbellaw04_GeomSizes_k1 e0 k) (corbellaw04_GeomSizes_k2 e0 k) k v_256 v_257 v_258 v_259 v_260 v_261 true
  else optb (geom_Parity k v_268 v_269 v_270 v_271 v_272 v_255 v_256) fun r_319 =>
  corbellaw04_GeomSizes_j2 (corbellaw04_GeomSizes_k1 e0 k) (corbellaw04_GeomSizes_k2 e0 k) k v_256 v_257 v_258 v_259 v_260 v_261 (!(decide (r_319 = v_262)))
def corbellaw04_GeomSizes_k0 (k : Nat) : Int → Int → Int → Int → Bool → Int → Int → Int → Int → Int → Int → Int → Int → Int → Int → Int → Int → Int → Option Bool := fun v_237 v_238 v_239 v_240 v_241 v_242 v_243 v_244 v_245 v_246 v_247 v_248 v_249 v_250 v_251 v_252 v_253 v_254 =>
  corbellaw04_GeomSizes_j1 (fun v_320 =>
    some v_320) k v_237 v_238 v_239 v_240 v_241 v_242 v_243 v_244 v_245 v_246 v_247 v_248 v_249 v_250 v_251 v_252 v_253 v_254
def corbellaw04_GeomSizes (k : Nat) (a0 : Int) (a1 : Int) (a2 : Int) (a3 : Int) (a4 : Int) (a5 : Int) (a6 : Int) : Option Bool :=
  optb (corbellaw04_speaks k) fun r_208 =>
  bif (!r_208) then
    some false
  else optb (geom_Split k a0 a1 a2 a3 a4 a6) fun r_209 =>
  optb (corbelref04_Good k a0 a1 a2 a3 a4) fun r_214 =>
  bif (!r_214) then
    optb (geom_Zones k a0 a1 a2 a3 a4) fun r_215 =>
    bif (decide (r_215 = (0 : Int))) then
      optb (geom_Capacity k a0 a1 a2 a3 a4) fun r_216 =>
      bif (decide (r_216 = (0 : Int))) then
        optb (geom_Parity k a0 a1 a2 a3 a4 a5 a6) fun r_217 =>
        bif (decide (r_217 = (-1 : Int))) then
          bif (decide (r_209.1 = (0 : Int))) then
            bif (decide (r_209.2.1 = (0 : Int))) then
              some (!r_209.2.2)
            else some false
          else some false
        else some false
      else some false
    else some false
  else bif (decide ((0 : Int) ≤ a5)) then
    bif (decide (a5 < (wrap64 (a1 - (3 : Int))))) then
      bif (decide ((0 : Int) ≤ a6)) then
        corbellaw04_GeomSizes_j0 (corbellaw04_GeomSizes_k0 k) k a5 a6 r_209.1 r_209.2.1 r_209.2.2 (wrap64 (a1 - (3 : Int))) (wrap64 ((wrap64 (a0 - (1 : Int))) * a2)) (-1 : Int) (decide (a6 < a2)) a0 a1 a2 a3 a4 a0 a1 a2 a3 a4
      else corbellaw04_GeomSizes_j0 (corbellaw04_GeomSizes_k0 k) k a5 a6 r_209.1 r_209.2.1 r_209.2.2 (wrap64 (a1 - (3 : Int))) (wrap64 ((wrap64 (a0 - (1 : Int))) * a2)) (-1 : Int) false a0 a1 a2 a3 a4 a0 a1 a2 a3 a4
    else corbellaw04_GeomSizes_j0 (corbellaw04_GeomSizes_k0 k) k a5 a6 r_209.1 r_209.2.1 r_209.2.2 (wrap64 (a1 - (3 : Int))) (wrap64 ((wrap64 (a0 - (1 : Int))) * a2)) (-1 : Int) false a0 a1 a2 a3 a4 a0 a1 a2 a3 a4
  else corbellaw04_GeomSizes_j0 (corbellaw04_GeomSizes_k0 k) k a5 a6 r_209.1 r_209.2.1 r_209.2.2 (wrap64 (a1 - (3 : Int))) (wrap64 ((wrap64 (a0 - (1 : Int))) * a2)) (-1 : Int) false a0 a1 a2 a3 a4 a0 a1 a2 a3 a4
def corbellaw04_GeomSizes_p (k : Nat) : PF := { ps := [(true, 5), (false, 1), (false, 1)], rs := [(false, 1)], τ := (.pair (.pair (.int .i64) (.pair (.int .i64) (.pair (.int .i64) (.pair (.int .i64) (.int .i64))))) (.pair (.int .i64) (.int .i64))), σ := .bool, f := fun x => corbellaw04_GeomSizes k x.1.1 x.1.2.1 x.1.2.2.1 x.1.2.2.2.1 x.1.2.2.2.2 x.2.1 x.2.2 }
def corbellaw04_GeomSizes_F (k : Nat) : PT := fcons 15 (corbellaw04_speaks_p k) <| fcons 26 (geom_Split_p k) <| fcons 21 (corbelref04_Good_p k) <| fcons 17 (geom_Zones_p k) <| fcons 27 (geom_Capacity_p k) <| fcons 18 (geom_Parity_p k) <| fnone
theorem corbellaw04_GeomSizes_fok (k : Nat) : FOK Try.prog (corbellaw04_GeomSizes_F k) := fok_cons (corbellaw04_speaks_ok k) Try.call15 <| fok_cons (geom_Split_ok k) Try.call26 <| fok_cons (corbelref04_Good_ok k) Try.call21 <| fok_cons (geom_Zones_ok k) Try.call17 <| fok_cons (geom_Capacity_ok k) Try.call27 <| fok_cons (geom_Parity_ok k) Try.call18 <| fok_none
def corbellaw04_GeomSizes_c0 : Cl := { keep := [1, 2, 3, 7, 9, 10, 11, 12, 13, 14, 81], hl := 2, ad := [], adc := [], bump := [] }
def corbellaw04_GeomSizes_x0 : Cl := { keep := [1, 2, 7, 9, 10, 11, 12, 13, 14], hl := 2, ad := [], adc := [], bump := [] }
def corbellaw04_GeomSizes_c1 : Cl := { keep := [1, 2, 7, 9, 10, 11, 12, 13, 14], hl := 2, ad := [], adc := [], bump := [] }
def corbellaw04_GeomSizes_x1 : Cl := { keep := [6], hl := 0, ad := [], adc := [], bump := [] }
def corbellaw04_GeomSizes_c2 : Cl := { keep := [2, 9, 10, 11, 12, 13, 105], hl := 0, ad := [], adc := [], bump := [] }
def corbellaw04_GeomSizes_x2 : Cl := { keep := [2, 6, 9, 10, 11, 12, 13], hl := 0, ad := [], adc := [], bump := [] }
def corbellaw04_GeomSizes_c3 : Cl := { keep := [2, 9, 10, 11, 13, 114], hl := 0, ad := [], adc := [], bump := [] }
def corbellaw04_GeomSizes_x3 : Cl := { keep := [2, 6, 9, 10, 11, 13], hl := 0, ad := [], adc := [], bump := [] }
def corbellaw04_GeomSizes_h : Hint := (.sq .no (.sq .no (.sq .no (.sq .no (.sq .no (.sq .no (.sq .no (.ct corbellaw04_GeomSizes_c1 corbellaw04_GeomSizes_x1 1 (.ct corbellaw04_GeomSizes_c0 corbellaw04_GeomSizes_x0 0 .no .no) (.sq (.ct corbellaw04_GeomSizes_c2 corbellaw04_GeomSizes_x2 2 .no .no) (.sq (.ct corbellaw04_GeomSizes_c3 corbellaw04_GeomSizes_x3 3 .no .no) .no))))))))))
def corbellaw04_GeomSizes_j0_E0 {R : Type} (K : EX → St → Option R) : Int → Int → Int → Int → Bool → Int → Int → Int → Int → Int → Int → Int → Int → Int → Int → Int → Int → Int → Option R := fun v0 v1 v2 v3 v4 v5 v6 v7 v8 v9 v10 v11 v12 v13 v14 v15 v16 v17 => K .normal (mkSt 140 [] corbellaw04_GeomSizes_x0.keep [.int .i64 v0, .int .i64 v1, .ptr 1 0, .int .i64 v2, .int .i64 v3, .bool v4, .int .i64 v5, .int .i64 v6, .int .i64 v7] [.blk [.int .i64 v8, .int .i64 v9, .int .i64 v10, .int .i64 v11, .int .i64 v12], .blk [.int .i64 v13, .int .i64 v14, .int .i64 v15, .int .i64 v16, .int .i64 v17]])
def corbellaw04_GeomSizes_j0_S (v_218 : Int) (v_219 : Int) (v_220 : Int) (v_221 : Int) (v_222 : Bool) (v_223 : Int) (v_224 : Int) (v_225 : Int) (v_226 : Bool) (v_227 : Int) (v_228 : Int) (v_229 : Int) (v_230 : Int) (v_231 : Int) (v_232 : Int) (v_233 : Int) (v_234 : Int) (v_235 : Int) (v_236 : Int) : St := mkSt 140 [] corbellaw04_GeomSizes_c0.keep [.int .i64 v_218, .int .i64 v_219, .ptr 0 0, .ptr 1 0, .int .i64 v_220, .int .i64 v_221, .bool v_222, .int .i64 v_223, .int .i64 v_224, .int .i64 v_225, .bool v_226] [.blk [.int .i64 v_227, .int .i64 v_228, .int .i64 v_229, .int .i64 v_230, .int .i64 v_231], .blk [.int .i64 v_232, .int .i64 v_233, .int .i64 v_234, .int .i64 v_235, .int .i64 v_236]]
def corbellaw04_GeomSizes_j0_sh : Rd (List AV × List HE) := .pair (.cons (.int .i64) (.cons (.int .i64) (.cons (.ptr 0 0) (.cons (.ptr 1 0) (.cons (.int .i64) (.cons (.int .i64) (.cons .bool (.cons (.int .i64) (.cons (.int .i64) (.cons (.int .i64) (.cons .bool Rd.nil))))))))))) (.cons (.blk (.cons (.int .i64) (.cons (.int .i64) (.cons (.int .i64) (.cons (.int .i64) (.cons (.int .i64) Rd.nil)))))) (.cons (.blk (.cons (.int .i64) (.cons (.int .i64) (.cons (.int .i64) (.cons (.int .i64) (.cons (.int .i64) Rd.nil)))))) Rd.nil))
def corbellaw04_GeomSizes_j0_a {R : Type} (k : Nat) : Alt R := { n := 140, v := [], sh := corbellaw04_GeomSizes_j0_sh, g := fun K x => corbellaw04_GeomSizes_j0 (corbellaw04_GeomSizes_j0_E0 K) k x.1.1 x.1.2.1 x.1.2.2.2.2.1 x.1.2.2.2.2.2.1 x.1.2.2.2.2.2.2.1 x.1.2.2.2.2.2.2.2.1 x.1.2.2.2.2.2.2.2.2.1 x.1.2.2.2.2.2.2.2.2.2.1 x.1.2.2.2.2.2.2.2.2.2.2.1 x.2.1.1 x.2.1.2.1 x.2.1.2.2.1 x.2.1.2.2.2.1 x.2.1.2.2.2.2.1 x.2.2.1.1 x.2.2.1.2.1 x.2.2.1.2.2.1 x.2.2.1.2.2.2.1 x.2.2.1.2.2.2.2.1 }
def corbellaw04_GeomSizes_j1_E0 {R : Type} (K : EX → St → Option R) : Bool → Option R := fun v0 => K .ret (mkSt 140 [] corbellaw04_GeomSizes_x1.keep [.bool v0] [])
def corbellaw04_GeomSizes_j1_S (v_255 : Int) (v_256 : Int) (v_257 : Int) (v_258 : Int) (v_259 : Bool) (v_260 : Int) (v_261 : Int) (v_262 : Int) (v_263 : Int) (v_264 : Int) (v_265 : Int) (v_266 : Int) (v_267 : Int) (v_268 : Int) (v_269 : Int) (v_270 : Int) (v_271 : Int) (v_272 : Int) : St := mkSt 140 [] corbellaw04_GeomSizes_c1.keep [.int .i64 v_255, .int .i64 v_256, .ptr 1 0, .int .i64 v_257, .int .i64 v_258, .bool v_259, .int .i64 v_260, .int .i64 v_261, .int .i64 v_262] [.blk [.int .i64 v_263, .int .i64 v_264, .int .i64 v_265, .int .i64 v_266, .int .i64 v_267], .blk [.int .i64 v_268, .int .i64 v_269, .int .i64 v_270, .int .i64 v_271, .int .i64 v_272]]
def corbellaw04_GeomSizes_j1_sh : Rd (List AV × List HE) := .pair (.cons (.int .i64) (.cons (.int .i64) (.cons (.ptr 1 0) (.cons (.int .i64) (.cons (.int .i64) (.cons .bool (.cons (.int .i64) (.cons (.int .i64) (.cons (.int .i64) Rd.nil))))))))) (.cons (.blk (.cons (.int .i64) (.cons (.int .i64) (.cons (.int .i64) (.cons (.int .i64) (.cons (.int .i64) Rd.nil)))))) (.cons (.blk (.cons (.int .i64) (.cons (.int .i64) (.cons (.int .i64) (.cons (.int .i64) (.cons (.int .i64) Rd.nil)))))) Rd.nil))
def corbellaw04_GeomSizes_j1_a {R : Type} (k : Nat) : Alt R := { n := 140, v := [], sh := corbellaw04_GeomSizes_j1_sh, g := fun K x => corbellaw04_GeomSizes_j1 (corbellaw04_GeomSizes_j1_E0 K) k x.1.1 x.1.2.1 x.1.2.2.2.1 x.1.2.2.2.2.1 x.1.2.2.2.2.2.1 x.1.2.2.2.2.2.2.1 x.1.2.2.2.2.2.2.2.1 x.1.2.2.2.2.2.2.2.2.1 x.2.1.1 x.2.1.2.1 x.2.1.2.2.1 x.2.1.2.2.2.1 x.2.1.2.2.2.2.1 x.2.2.1.1 x.2.2.1.2.1 x.2.2.1.2.2.1 x.2.2.1.2.2.2.1 x.2.2.1.2.2.2.2.1 }
def corbellaw04_GeomSizes_j2_E0 {R : Type} (K : EX → St → Option R) : Int → Bool → Int → Int → Bool → Int → Int → Option R := fun v0 v1 v2 v3 v4 v5 v6 => K .ret (mkSt 140 [] corbellaw04_GeomSizes_x2.keep [.int .i64 v0, .bool v1, .int .i64 v2, .int .i64 v3, .bool v4, .int .i64 v5, .int .i64 v6] [])
def corbellaw04_GeomSizes_j2_E1 {R : Type} (K : EX → St → Option R) : Int → Int → Int → Bool → Int → Int → Option R := fun v0 v1 v2 v3 v4 v5 => K .normal (mkSt 140 [] corbellaw04_GeomSizes_x2.keep [.int .i64 v0, .junk, .int .i64 v1, .int .i64 v2, .bool v3, .int .i64 v4, .int .i64 v5] [])
def corbellaw04_GeomSizes_j2_S (v_280 : Int) (v_281 : Int) (v_282 : Int) (v_283 : Bool) (v_284 : Int) (v_285 : Int) (v_286 : Bool) : St := mkSt 140 [] corbellaw04_GeomSizes_c2.keep [.int .i64 v_280, .int .i64 v_281, .int .i64 v_282, .bool v_283, .int .i64 v_284, .int .i64 v_285, .bool v_286] []
def corbellaw04_GeomSizes_j2_sh : Rd (List AV × List HE) := .pair (.cons (.int .i64) (.cons (.int .i64) (.cons (.int .i64) (.cons .bool (.cons (.int .i64) (.cons (.int .i64) (.cons .bool Rd.nil))))))) Rd.nil
def corbellaw04_GeomSizes_j2_a {R : Type} (k : Nat) : Alt R := { n := 140, v := [], sh := corbellaw04_GeomSizes_j2_sh, g := fun K x => corbellaw04_GeomSizes_j2 (corbellaw04_GeomSizes_j2_E0 K) (corbellaw04_GeomSizes_j2_E1 K) k x.1.1 x.1.2.1 x.1.2.2.1 x.1.2.2.2.1 x.1.2.2.2.2.1 x.1.2.2.2.2.2.1 x.1.2.2.2.2.2.2.1 }
def corbellaw04_GeomSizes_j3_E0 {R : Type} (K : EX → St → Option R) : Int → Bool → Int → Int → Bool → Int → Option R := fun v0 v1 v2 v3 v4 v5 => K .ret (mkSt 140 [] corbellaw04_GeomSizes_x3.keep [.int .i64 v0, .bool v1, .int .i64 v2, .int .i64 v3, .bool v4, .int .i64 v5] [])
def corbellaw04_GeomSizes_j3_E1 {R : Type} (K : EX → St → Option R) : Int → Int → Int → Bool → Int → Option R := fun v0 v1 v2 v3 v4 => K .normal (mkSt 140 [] corbellaw04_GeomSizes_x3.keep [.int .i64 v0, .junk, .int .i64 v1, .int .i64 v2, .bool v3, .int .i64 v4] [])
def corbellaw04_GeomSizes_j3_S (v_300 : Int) (v_301 : Int) (v_302 : Int) (v_303 : Bool) (v_304 : Int) (v_305 : Bool) : St := mkSt 140 [] corbellaw04_GeomSizes_c3.keep [.int .i64 v_300, .int .i64 v_301, .int .i64 v_302, .bool v_303, .int .i64 v_304, .bool v_305] []
def corbellaw04_GeomSizes_j3_sh : Rd (List AV × List HE) := .pair (.cons (.int .i64) (.cons (.int .i64) (.cons (.int .i64) (.cons .bool (.cons (.int .i64) (.cons .bool Rd.nil)))))) Rd.nil
def corbellaw04_GeomSizes_j3_a {R : Type} (k : Nat) : Alt R := { n := 140, v := [], sh := corbellaw04_GeomSizes_j3_sh, g := fun K x => corbellaw04_GeomSizes_j3 (corbellaw04_GeomSizes_j3_E0 K) (corbellaw04_GeomSizes_j3_E1 K) k x.1.1 x.1.2.1 x.1.2.2.1 x.1.2.2.2.1 x.1.2.2.2.2.1 x.1.2.2.2.2.2.1 }
def corbellaw04_GeomSizes_O {R : Type} (k : Nat) : CutK R := cutsO [[corbellaw04_GeomSizes_j0_a k], [corbellaw04_GeomSizes_j1_a k], [corbellaw04_GeomSizes_j2_a k], [corbellaw04_GeomSizes_j3_a k]]
noncomputable def corbellaw04_GeomSizes_b : List Ob := obs (bodyOf Try.f7) corbellaw04_GeomSizes_h
noncomputable def corbellaw04_GeomSizes_I {R : Type} (k : Nat) : InlT R := inone
theorem corbellaw04_GeomSizes_j0_eq {R : Type} (k : Nat) (K : EX → St → Option R) (v_218 : Int) (v_219 : Int) (v_220 : Int) (v_221 : Int) (v_222 : Bool) (v_223 : Int) (v_224 : Int) (v_225 : Int) (v_226 : Bool) (v_227 : Int) (v_228 : Int) (v_229 : Int) (v_230 : Int) (v_231 : Int) (v_232 : Int) (v_233 : Int) (v_234 : Int) (v_235 : Int) (v_236 : Int) : corbellaw04_GeomSizes_j0 (corbellaw04_GeomSizes_j0_E0 K) k v_218 v_219 v_220 v_221 v_222 v_223 v_224 v_225 v_226 v_227 v_228 v_229 v_230 v_231 v_232 v_233 v_234 v_235 v_236 = ev tab (corbellaw04_GeomSizes_F k) (inlK tab (corbellaw04_GeomSizes_F k) (corbellaw04_GeomSizes_I k) 0) (corbellaw04_GeomSizes_O k) (obB corbellaw04_GeomSizes_b 0) (obH corbellaw04_GeomSizes_b 0) (corbellaw04_GeomSizes_j0_S v_218 v_219 v_220 v_221 v_222 v_223 v_224 v_225 v_226 v_227 v_228 v_229 v_230 v_231 v_232 v_233 v_234 v_235 v_236) (fun e st => optb (clean corbellaw04_GeomSizes_x0 st) fun st => K e st) := by kernel_rfl
theorem corbellaw04_GeomSizes_j0_ok {R : Type} (k : Nat)  : ObOK (R := R) tab (corbellaw04_GeomSizes_F k) (inlK tab (corbellaw04_GeomSizes_F k) (corbellaw04_GeomSizes_I k) 0) (corbellaw04_GeomSizes_O k) (.join corbellaw04_GeomSizes_c0 corbellaw04_GeomSizes_x0 0 (obB corbellaw04_GeomSizes_b 0) (obH corbellaw04_GeomSizes_b 0)) :=
  join_ok (l := [corbellaw04_GeomSizes_j0_a k]) (by kernel_rfl) ⟨(fun K x => (corbellaw04_GeomSizes_j0_eq k K x.1.1 x.1.2.1 x.1.2.2.2.2.1 x.1.2.2.2.2.2.1 x.1.2.2.2.2.2.2.1 x.1.2.2.2.2.2.2.2.1 x.1.2.2.2.2.2.2.2.2.1 x.1.2.2.2.2.2.2.2.2.2.1 x.1.2.2.2.2.2.2.2.2.2.2.1 x.2.1.1 x.2.1.2.1 x.2.1.2.2.1 x.2.1.2.2.2.1 x.2.1.2.2.2.2.1 x.2.2.1.1 x.2.2.1.2.1 x.2.2.1.2.2.1 x.2.2.1.2.2.2.1 x.2.2.1.2.2.2.2.1).trans (by kernel_rfl)), trivial⟩
theorem corbellaw04_GeomSizes_j1_eq {R : Type} (k : Nat) (K : EX → St → Option R) (v_255 : Int) (v_256 : Int) (v_257 : Int) (v_258 : Int) (v_259 : Bool) (v_260 : Int) (v_261 : Int) (v_262 : Int) (v_263 : Int) (v_264 : Int) (v_265 : Int) (v_266 : Int) (v_267 : Int) (v_268 : Int) (v_269 : Int) (v_270 : Int) (v_271 : Int) (v_272 : Int) : corbellaw04_GeomSizes_j1 (corbellaw04_GeomSizes_j1_E0 K) k v_255 v_256 v_257 v_258 v_259 v_260 v_261 v_262 v_263 v_264 v_265 v_266 v_267 v_268 v_269 v_270 v_271 v_272 = ev tab (corbellaw04_GeomSizes_F k) (inlK tab (corbellaw04_GeomSizes_F k) (corbellaw04_GeomSizes_I k) 0) (corbellaw04_GeomSizes_O k) (obB corbellaw04_GeomSizes_b 1) (obH corbellaw04_GeomSizes_b 1) (corbellaw04_GeomSizes_j1_S v_255 v_256 v_257 v_258 v_259 v_260 v_261 v_262 v_263 v_264 v_265 v_266 v_267 v_268 v_269 v_270 v_271 v_272) (fun e st => optb (clean corbellaw04_GeomSizes_x1 st) fun st => K e st) := by kernel_rfl
theorem corbellaw04_GeomSizes_j1_ok {R : Type} (k : Nat)  : ObOK (R := R) tab (corbellaw04_GeomSizes_F k) (inlK tab (corbellaw04_GeomSizes_F k) (corbellaw04_GeomSizes_I k) 0) (corbellaw04_GeomSizes_O k) (.join corbellaw04_GeomSizes_c1 corbellaw04_GeomSizes_x1 1 (obB corbellaw04_GeomSizes_b 1) (obH corbellaw04_GeomSizes_b 1)) :=
  join_ok (l := [corbellaw04_GeomSizes_j1_a k]) (by kernel_rfl) ⟨(fun K x => (corbellaw04_GeomSizes_j1_eq k K x.1.1 x.1.2.1 x.1.2.2.2.1 x.1.2.2.2.2.1 x.1.2.2.2.2.2.1 x.1.2.2.2.2.2.2.1 x.1.2.2.2.2.2.2.2.1 x.1.2.2.2.2.2.2.2.2.1 x.2.1.1 x.2.1.2.1 x.2.1.2.2.1 x.2.1.2.2.2.1 x.2.1.2.2.2.2.1 x.2.2.1.1 x.2.2.1.2.1 x.2.2.1.2.2.1 x.2.2.1.2.2.2.1 x.2.2.1.2.2.2.2.1).trans (by kernel_rfl)), trivial⟩
theorem corbellaw04_GeomSizes_j2_eq {R : Type} (k : Nat) (K : EX → St → Option R) (v_280 : Int) (v_281 : Int) (v_282 : Int) (v_283 : Bool) (v_284 : Int) (v_285 : Int) (v_286 : Bool) : corbellaw04_GeomSizes_j2 (corbellaw04_GeomSizes_j2_E0 K) (corbellaw04_GeomSizes_j2_E1 K) k v_280 v_281 v_282 v_283 v_284 v_285 v_286 = ev tab (corbellaw04_GeomSizes_F k) (inlK tab (corbellaw04_GeomSizes_F k) (corbellaw04_GeomSizes_I k) 0) (corbellaw04_GeomSizes_O k) (obB corbellaw04_GeomSizes_b 2) (obH corbellaw04_GeomSizes_b 2) (corbellaw04_GeomSizes_j2_S v_280 v_281 v_282 v_283 v_284 v_285 v_286) (fun e st => optb (clean corbellaw04_GeomSizes_x2 st) fun st => K e st) := by kernel_rfl
theorem corbellaw04_GeomSizes_j2_ok {R : Type} (k : Nat)  : ObOK (R := R) tab (corbellaw04_GeomSizes_F k) (inlK tab (corbellaw04_GeomSizes_F k) (corbellaw04_GeomSizes_I k) 0) (corbellaw04_GeomSizes_O k) (.join corbellaw04_GeomSizes_c2 corbellaw04_GeomSizes_x2 2 (obB corbellaw04_GeomSizes_b 2) (obH corbellaw04_GeomSizes_b 2)) :=
  join_ok (l := [corbellaw04_GeomSizes_j2_a k]) (by kernel_rfl) ⟨(fun K x => (corbellaw04_GeomSizes_j2_eq k K x.1.1 x.1.2.1 x.1.2.2.1 x.1.2.2.2.1 x.1.2.2.2.2.1 x.1.2.2.2.2.2.1 x.1.2.2.2.2.2.2.1).trans (by kernel_rfl)), trivial⟩
theorem corbellaw04_GeomSizes_j3_eq {R : Type} (k : Nat) (K : EX → St → Option R) (v_300 : Int) (v_301 : Int) (v_302 : Int) (v_303 : Bool) (v_304 : Int) (v_305 : Bool) : corbellaw04_GeomSizes_j3 (corbellaw04_GeomSizes_j3_E0 K) (corbellaw04_GeomSizes_j3_E1 K) k v_300 v_301 v_302 v_303 v_304 v_305 = ev tab (corbellaw04_GeomSizes_F k) (inlK tab (corbellaw04_GeomSizes_F k) (corbellaw04_GeomSizes_I k) 0) (corbellaw04_GeomSizes_O k) (obB corbellaw04_GeomSizes_b 3) (obH corbellaw04_GeomSizes_b 3) (corbellaw04_GeomSizes_j3_S v_300 v_301 v_302 v_303 v_304 v_305) (fun e st => optb (clean corbellaw04_GeomSizes_x3 st) fun st => K e st) := by kernel_rfl
theorem corbellaw04_GeomSizes_j3_ok {R : Type} (k : Nat)  : ObOK (R := R) tab (corbellaw04_GeomSizes_F k) (inlK tab (corbellaw04_GeomSizes_F k) (corbellaw04_GeomSizes_I k) 0) (corbellaw04_GeomSizes_O k) (.join corbellaw04_GeomSizes_c3 corbellaw04_GeomSizes_x3 3 (obB corbellaw04_GeomSizes_b 3) (obH corbellaw04_GeomSizes_b 3)) :=
  join_ok (l := [corbellaw04_GeomSizes_j3_a k]) (by kernel_rfl) ⟨(fun K x => (corbellaw04_GeomSizes_j3_eq k K x.1.1 x.1.2.1 x.1.2.2.1 x.1.2.2.2.1 x.1.2.2.2.2.1 x.1.2.2.2.2.2.1).trans (by kernel_rfl)), trivial⟩
theorem corbellaw04_GeomSizes_cuts {R : Type} (k : Nat) : ∀ c, Try.f7.body = some c → CutsOK (R := R) tab (corbellaw04_GeomSizes_F k) (inlK tab (corbellaw04_GeomSizes_F k) (corbellaw04_GeomSizes_I k) 0) (corbellaw04_GeomSizes_O k) c corbellaw04_GeomSizes_h :=
  cuts_of (l := [.join corbellaw04_GeomSizes_c0 corbellaw04_GeomSizes_x0 0 (obB corbellaw04_GeomSizes_b 0) (obH corbellaw04_GeomSizes_b 0), .join corbellaw04_GeomSizes_c1 corbellaw04_GeomSizes_x1 1 (obB corbellaw04_GeomSizes_b 1) (obH corbellaw04_GeomSizes_b 1), .join corbellaw04_GeomSizes_c2 corbellaw04_GeomSizes_x2 2 (obB corbellaw04_GeomSizes_b 2) (obH corbellaw04_GeomSizes_b 2), .join corbellaw04_GeomSizes_c3 corbellaw04_GeomSizes_x3 3 (obB corbellaw04_GeomSizes_b 3) (obH corbellaw04_GeomSizes_b 3)]) (by kernel_rfl) ⟨corbellaw04_GeomSizes_j0_ok k, corbellaw04_GeomSizes_j1_ok k, corbellaw04_GeomSizes_j2_ok k, corbellaw04_GeomSizes_j3_ok k, trivial⟩
theorem corbellaw04_GeomSizes_iok {R : Type} (k : Nat) : IOK Try.prog tab (corbellaw04_GeomSizes_F k) (corbellaw04_GeomSizes_I (R := R) k) := iok_none
theorem corbellaw04_GeomSizes_ev (k : Nat) (x : (corbellaw04_GeomSizes_p k).τ.den) : evalF tab (corbellaw04_GeomSizes_F k) (corbellaw04_GeomSizes_p k) (corbellaw04_GeomSizes_I k) 0 (corbellaw04_GeomSizes_O k) corbellaw04_GeomSizes_h Try.f7 x = (corbellaw04_GeomSizes_p k).f x := by kernel_rfl
theorem corbellaw04_GeomSizes_ok (k : Nat) : PFOK Try.prog 7 (corbellaw04_GeomSizes_p k) := pfok mixed tabOK (corbellaw04_GeomSizes_fok k) Try.func7 (I := corbellaw04_GeomSizes_I k) (d := 0) (corbellaw04_GeomSizes_iok k) (Q := corbellaw04_GeomSizes_O k) (hi := corbellaw04_GeomSizes_h) (corbellaw04_GeomSizes_cuts k) (corbellaw04_GeomSizes_ev k)
end Go.Proofs.Ytkokbcijgikkgaa.Ev
