/- What the table of the sums' nibbles gives the evaluator; no conditions. -/
import Derived.Test.YtibdnfknokkadaaDoorEtab
import Derived.Test.YtibdnfknokkadaaDoorTabs
import Derived.Test.YtibdnfknokkadaaDoorEvOpen
set_option linter.unusedVariables false
namespace Go.Proofs.YtibdnfknokkadaaDoor.Ev
open Go Go.RowKit
theorem cells_of {w : World} {g : Nat} {vs : List Int} (h : ∀ i : Nat, i < 16 → w.cell? ⟨g, i, none⟩ = some (.int .u32 (vs.getD i 0))) (hl : vs.length = 16) : ∀ j v, (vs.map (Value.int .u32))[j]? = some v → w.cell? ((⟨g, 0, none⟩ : Addr).add j) = some v := fun j v hv => by
  have hj : j < 16 := by have := (List.getElem?_eq_some_iff.1 hv).1; simpa [hl] using this
  rw [add_plain, Nat.zero_add, h j hj]
  rw [List.getElem?_map] at hv
  rw [List.getD_eq_getElem?_getD]
  cases hx : vs[j]? with
  | none => rw [hx] at hv; cases hv
  | some x => rw [hx] at hv; simpa using hv
theorem glr {W : World} (h : ∀ i : Nat, i < 16 → W.cell? ⟨0, i, none⟩ = some (.int .u32 (Tabs.nibs.getD i 0))) : GlR NoO W [] [] tab := fun g x hx => by
  have hx' : (bif Nat.beq g 0 then some (⟨gl0_t, gl0⟩ : (t : Ty) × t.den) else none) = some x := hx
  cases hb : Nat.beq g 0 with
  | false => rw [hb] at hx'; cases hx'
  | true =>
    rw [hb] at hx'
    have hg := Nat.eq_of_beq_eq_true hb
    subst hg
    cases hx'
    have hc := cells_of h rfl
    have hlt : 0 < W.heap.size := World.block_lt_of_cell? W _ (h 0 (by decide))
    refine .ro (c := Tabs.nibs.map (Value.int .u32)) (fun ho => ?_) hlt (fun j v hv => ?_) ?_
    · rcases ho with h | ⟨r, hr, _⟩
      · exact h
      · simp at hr
    · exact hc j v (by simpa using hv)
    · exact ⟨[_], _, rfl, rfl, [_], _, rfl, rfl, [_], _, rfl, rfl, [_], _, rfl, rfl, [_], _, rfl, rfl, [_], _, rfl, rfl, [_], _, rfl, rfl, [_], _, rfl, rfl, [_], _, rfl, rfl, [_], _, rfl, rfl, [_], _, rfl, rfl, [_], _, rfl, rfl, [_], _, rfl, rfl, [_], _, rfl, rfl, [_], _, rfl, rfl, rfl⟩
end Go.Proofs.YtibdnfknokkadaaDoor.Ev
