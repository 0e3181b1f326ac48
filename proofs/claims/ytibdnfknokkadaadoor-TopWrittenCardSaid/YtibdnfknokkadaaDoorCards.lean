/-
  DERIVED. GIVEN WITH THE SEED: THE CARDS: each row of YtibdnfknokkadaaDoorRows.lean that lists a variable, with what it lists TIED to the program's text (the seventh form; the later family's looks); each row that meets fmt, with fmt's text TOLD by the authors' own Lean function (tested against real Go, not proved from fmt's source: count such statements apart). THE CARD IS WHAT COUNTS. Prove the row's statement (the work); the ties are given (YtibdnfknokkadaaDoorTie.lean); close each card by the builder's one call (the guide's Derived/Test/ToyasCard.lean, 'card_holds'). Laid BY PROGRAM, IN A SANDBOX (cutbox-door.mjs). By AI agents, Wed Nov 11 2026. No macro, syntax, notation, axiom, sorry.
-/
import Derived.Test.YtibdnfknokkadaaDoorRows
import GoSem.ClaimSeven
namespace Go.Proofs.YtibdnfknokkadaaDoor
namespace Rows

/-- THE TIED CARD OF 'corbeltop.TopWritten'. -/
def topWrittenCard : Claim7 := { stood := { row := topWrittenRow, standIns := [], harness := (true, "5d440f8ae0fac6e443ce4fcf9f0bf121737a319295d77e56b9baa588814b364a"), looks := false }, kinds := [], alts := [], laidByText := true, laidKinds := [.data, .data, .pinned], laidTests := true, laidLooks := .later }
def TopWrittenCardSaid : Prop := Claim7.holds Tryd.pinned (.plain (OpenSpec.ofChange topWrittenSpec)) topWrittenCard

/-- THE SECOND FORM's CARD OF 'corbeltop.TopWritten'. -/
def topWrittenUptoCard : Claim7 := { stood := { row := topWrittenUptoRow, standIns := [], harness := (true, "5d440f8ae0fac6e443ce4fcf9f0bf121737a319295d77e56b9baa588814b364a"), looks := false }, kinds := [], alts := [], laidByText := true, laidKinds := [.data, .data, .pinned], laidTests := true, laidLooks := .later }
def TopWrittenUptoCardSaid : Prop := Claim7.holds Tryd.pinned (.plain (OpenSpec.upto topWrittenSpec)) topWrittenUptoCard
end Rows
end Go.Proofs.YtibdnfknokkadaaDoor
