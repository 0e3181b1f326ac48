/- The table of the sums' nibbles: what the row's listed variable gives the walks, and that the program's own start meets it; no conditions. -/
import Derived.Test.YtibdnfknokkadaaDoorRows
import Derived.ProofKit
import Derived.LaidMore
import Derived.Lay
import Derived.OpenShut
import Derived.Stop.Joined
namespace Go.Proofs.YtibdnfknokkadaaDoor.Tabs
open Go Go.ChangeShapes Go.WideShapes Go.ChangeAt Go.WideElems Go.RowKit
set_option maxRecDepth 100000
def L : List (String × DataW Unit) := [("corbel/crc.nibbles", Rows.laid_corbel_crc_nibbles), ("unicode/utf8.acceptRanges", Rows.laid_unicode_utf8_acceptRanges), ("unicode/utf8.first", Rows.laid_unicode_utf8_first)]
def nibs : List Int := [0, 274646895, 549293790, 820201905, 1098587580, 1361435347, 1640403810, 1905808397, 2197175160, 2460548119, 2722870694, 2987750089, 3280807620, 3553878443, 3811616794, 4084100981]
theorem gN : Tryd.prog.globalNamed "corbel/crc.nibbles" = some 0 := by kernel_rfl
theorem tN : (Tryd.prog.globals[0]?).map (·.type) = some 89 := by kernel_rfl
theorem door_met (os : Os) (args : Array Value) : laidMetH Tryd.prog L ((World.laidAll Tryd.prog os L).forCall (fun _ _ => 0) ⟨#[], args, []⟩).memory := by
  rw [MakeChecks.laidMetH_plain _ _ _ (by kernel_rfl)]; exact laidMet_laidAll _ (by kernel_rfl) (by kernel_rfl)
theorem tab_of_laid {W : World} (h : laidMetH Tryd.prog L W) : ∀ i : Nat, i < 16 → W.cell? ⟨0, i, none⟩ = some (.int .u32 (nibs.getD i 0)) := by
  rw [MakeChecks.laidMetH_plain _ _ _ (by kernel_rfl)] at h
  obtain ⟨ps, ⟨g0, t0, cs0, f0, p0, q0, hg0, ht0, hv0, hd0, _⟩, _⟩ := h
  obtain rfl := Option.some.inj (gN.symm.trans hg0)
  obtain rfl := Option.some.inj (tN.symm.trans ht0)
  obtain ⟨xs, m1, rfl, hx1, hlen, hn3, hel⟩ := DataW.trod_array Tryd.underlying89 hd0
  intro i hi
  have c3 : Tryd.prog.cellsOf 61 = 1 := by kernel_rfl
  have hi' := hel i hi
  simp only [Prod.mk.injEq] at hx1
  have hm := hx1.1
  unfold Rows.laid_corbel_crc_nibbles at hm
  injection hm with hm
  have hil : i < xs.length := by omega
  rw [List.getElem?_eq_getElem hil] at hi'
  obtain ⟨k, e1, e2, _⟩ := DataW.trod_int Tryd.underlying61 hi'
  have hmap : (xs.map (·.1))[i]? = some (.lit (.int .u32 k)) := by
    rw [List.getElem?_map, List.getElem?_eq_getElem hil, e2]; rfl
  rw [← hm] at hmap
  have hk : k = nibs.getD i 0 := by
    have hall : ∀ j : Fin 16, ∀ k : Int, ([DataW.lit (Lit.int .u32 0), .lit (.int .u32 274646895), .lit (.int .u32 549293790), .lit (.int .u32 820201905), .lit (.int .u32 1098587580), .lit (.int .u32 1361435347), .lit (.int .u32 1640403810), .lit (.int .u32 1905808397), .lit (.int .u32 2197175160), .lit (.int .u32 2460548119), .lit (.int .u32 2722870694), .lit (.int .u32 2987750089), .lit (.int .u32 3280807620), .lit (.int .u32 3553878443), .lit (.int .u32 3811616794), .lit (.int .u32 4084100981)] : List (DataW Unit))[j.val]? = some (.lit (.int .u32 k)) → k = nibs.getD j.val 0 := by
      intro j k h
      match j with
      | ⟨0, _⟩ | ⟨1, _⟩ | ⟨2, _⟩ | ⟨3, _⟩ | ⟨4, _⟩ | ⟨5, _⟩ | ⟨6, _⟩ | ⟨7, _⟩ | ⟨8, _⟩ | ⟨9, _⟩ | ⟨10, _⟩ | ⟨11, _⟩ | ⟨12, _⟩ | ⟨13, _⟩ | ⟨14, _⟩ | ⟨15, _⟩ => simp at h; subst h; rfl
    exact hall ⟨i, hi⟩ k hmap
  subst hk
  rw [c3, Nat.mul_one] at e1
  have hc := World.var?_cell hg0 hv0 i
  have : cs0.toList[i]? = some (.int .u32 (nibs.getD i 0)) := by
    have h0 := congrArg (fun l => l[0]?) e1
    simpa using h0
  rw [hc, ← Array.getElem?_toList]
  exact this
end Go.Proofs.YtibdnfknokkadaaDoor.Tabs
