/-
  DERIVED. GIVEN WITH THE SEED: THE CARDS: each row of YtdmcfpnegbfgiaaDoorRows.lean that lists a variable, with what it lists TIED to the program's text (the seventh form; the later family's looks); each row that meets fmt, with fmt's text TOLD by the authors' own Lean function (tested against real Go, not proved from fmt's source: count such statements apart). THE CARD IS WHAT COUNTS. Prove the row's statement (the work); the ties are given (YtdmcfpnegbfgiaaDoorTie.lean); close each card by the builder's one call (the guide's Derived/Test/ToyasCard.lean, 'card_holds'). Laid BY PROGRAM, IN A SANDBOX (cutbox-door.mjs). By AI agents, Wed Nov 11 2026. No macro, syntax, notation, axiom, sorry.
-/
import Derived.Test.YtdmcfpnegbfgiaaDoorRows
import GoSem.ClaimSeven
namespace Go.Proofs.YtdmcfpnegbfgiaaDoor
namespace Rows

/-- THE TIED CARD OF 'corbeltop.TopSealed'. -/
def topSealedCard : Claim7 := { stood := { row := topSealedRow, standIns := [], harness := (true, "ddf2cba9caef7fe5939df1865a05518afa50f2bb2409613c3b8460d7b0fd89df"), looks := false }, kinds := [], alts := [], laidByText := true, laidKinds := [.data], laidTests := true, laidLooks := .later }
def TopSealedCardSaid : Prop := Claim7.holds Tryd.pinned (.plain (OpenSpec.ofChange topSealedSpec)) topSealedCard

/-- THE TIED CARD OF 'corbeltop.TopSpread'. -/
def topSpreadCard : Claim7 := { stood := { row := topSpreadRow, standIns := [], harness := (true, "ddf2cba9caef7fe5939df1865a05518afa50f2bb2409613c3b8460d7b0fd89df"), looks := false }, kinds := [], alts := [], laidByText := true, laidKinds := [.data], laidTests := true, laidLooks := .later }
def TopSpreadCardSaid : Prop := Claim7.holds Tryd.pinned (.plain (OpenSpec.ofChange topSpreadSpec)) topSpreadCard

/-- THE TIED CARD OF 'corbeltop.TopRow'. -/
def topRowCard : Claim7 := { stood := { row := topRowRow, standIns := [], harness := (true, "ddf2cba9caef7fe5939df1865a05518afa50f2bb2409613c3b8460d7b0fd89df"), looks := false }, kinds := [], alts := [], laidByText := true, laidKinds := [.data, .data, .pinned], laidTests := true, laidLooks := .later }
def TopRowCardSaid : Prop := Claim7.holds Tryd.pinned (.plain (OpenSpec.ofChange topRowSpec)) topRowCard

/-- THE SECOND FORM's CARD OF 'corbeltop.TopSealed'. -/
def topSealedUptoCard : Claim7 := { stood := { row := topSealedUptoRow, standIns := [], harness := (true, "ddf2cba9caef7fe5939df1865a05518afa50f2bb2409613c3b8460d7b0fd89df"), looks := false }, kinds := [], alts := [], laidByText := true, laidKinds := [.data], laidTests := true, laidLooks := .later }
def TopSealedUptoCardSaid : Prop := Claim7.holds Tryd.pinned (.plain (OpenSpec.upto topSealedSpec)) topSealedUptoCard

/-- THE SECOND FORM's CARD OF 'corbeltop.TopSpread'. -/
def topSpreadUptoCard : Claim7 := { stood := { row := topSpreadUptoRow, standIns := [], harness := (true, "ddf2cba9caef7fe5939df1865a05518afa50f2bb2409613c3b8460d7b0fd89df"), looks := false }, kinds := [], alts := [], laidByText := true, laidKinds := [.data], laidTests := true, laidLooks := .later }
def TopSpreadUptoCardSaid : Prop := Claim7.holds Tryd.pinned (.plain (OpenSpec.upto topSpreadSpec)) topSpreadUptoCard

/-- THE SECOND FORM's CARD OF 'corbeltop.TopRow'. -/
def topRowUptoCard : Claim7 := { stood := { row := topRowUptoRow, standIns := [], harness := (true, "ddf2cba9caef7fe5939df1865a05518afa50f2bb2409613c3b8460d7b0fd89df"), looks := false }, kinds := [], alts := [], laidByText := true, laidKinds := [.data, .data, .pinned], laidTests := true, laidLooks := .later }
def TopRowUptoCardSaid : Prop := Claim7.holds Tryd.pinned (.plain (OpenSpec.upto topRowSpec)) topRowUptoCard
end Rows
end Go.Proofs.YtdmcfpnegbfgiaaDoor
