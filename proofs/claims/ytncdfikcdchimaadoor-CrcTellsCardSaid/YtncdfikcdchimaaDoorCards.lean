/-
  DERIVED. GIVEN WITH THE SEED: THE CARDS: each row of YtncdfikcdchimaaDoorRows.lean that lists a variable, with what it lists TIED to the program's text (the seventh form; the later family's looks); each row that meets fmt, with fmt's text TOLD by the authors' own Lean function (tested against real Go, not proved from fmt's source: count such statements apart). THE CARD IS WHAT COUNTS. Prove the row's statement (the work); the ties are given (YtncdfikcdchimaaDoorTie.lean); close each card by the builder's one call (the guide's Derived/Test/ToyasCard.lean, 'card_holds'). Laid BY PROGRAM, IN A SANDBOX (cutbox-door.mjs). By AI agents, Wed Nov 11 2026. No macro, syntax, notation, axiom, sorry.
-/
import Derived.Test.YtncdfikcdchimaaDoorRows
import GoSem.ClaimSeven
namespace Go.Proofs.YtncdfikcdchimaaDoor
namespace Rows

/-- THE TIED CARD OF 'corbellaw02.CrcSums'. -/
def crcSumsCard : Claim7 := { stood := { row := crcSumsRow, standIns := [], harness := (true, "c28df5590af22dd3fb99915196a05bcc2cfff8f5ad2e081f61cb884bcae66c96"), looks := false }, kinds := [], alts := [], laidByText := true, laidKinds := [.data], laidTests := true, laidLooks := .later }
def CrcSumsCardSaid : Prop := Claim7.holds Tryd.pinned (.plain (OpenSpec.ofChange crcSumsSpec)) crcSumsCard

/-- THE TIED CARD OF 'corbellaw02.CrcTells'. -/
def crcTellsCard : Claim7 := { stood := { row := crcTellsRow, standIns := [], harness := (true, "c28df5590af22dd3fb99915196a05bcc2cfff8f5ad2e081f61cb884bcae66c96"), looks := false }, kinds := [], alts := [], laidByText := true, laidKinds := [.data], laidTests := true, laidLooks := .later }
def CrcTellsCardSaid : Prop := Claim7.holds Tryd.pinned (.plain (OpenSpec.ofChange crcTellsSpec)) crcTellsCard

/-- THE TIED CARD OF 'corbellaw02.CrcTurns'. -/
def crcTurnsCard : Claim7 := { stood := { row := crcTurnsRow, standIns := [], harness := (true, "c28df5590af22dd3fb99915196a05bcc2cfff8f5ad2e081f61cb884bcae66c96"), looks := false }, kinds := [], alts := [], laidByText := true, laidKinds := [.data], laidTests := true, laidLooks := .later }
def CrcTurnsCardSaid : Prop := Claim7.holds Tryd.pinned (.plain (OpenSpec.ofChange crcTurnsSpec)) crcTurnsCard

/-- THE TIED CARD OF 'corbellaw02.CrcAdds'. -/
def crcAddsCard : Claim7 := { stood := { row := crcAddsRow, standIns := [], harness := (true, "c28df5590af22dd3fb99915196a05bcc2cfff8f5ad2e081f61cb884bcae66c96"), looks := false }, kinds := [], alts := [], laidByText := true, laidKinds := [.data], laidTests := true, laidLooks := .later }
def CrcAddsCardSaid : Prop := Claim7.holds Tryd.pinned (.plain (OpenSpec.ofChange crcAddsSpec)) crcAddsCard

/-- THE TIED CARD OF 'corbellaw02.CrcBits'. -/
def crcBitsCard : Claim7 := { stood := { row := crcBitsRow, standIns := [], harness := (true, "c28df5590af22dd3fb99915196a05bcc2cfff8f5ad2e081f61cb884bcae66c96"), looks := false }, kinds := [], alts := [], laidByText := true, laidKinds := [.data], laidTests := true, laidLooks := .later }
def CrcBitsCardSaid : Prop := Claim7.holds Tryd.pinned (.plain (OpenSpec.ofChange crcBitsSpec)) crcBitsCard

/-- THE SECOND FORM's CARD OF 'corbellaw02.CrcSums'. -/
def crcSumsUptoCard : Claim7 := { stood := { row := crcSumsUptoRow, standIns := [], harness := (true, "c28df5590af22dd3fb99915196a05bcc2cfff8f5ad2e081f61cb884bcae66c96"), looks := false }, kinds := [], alts := [], laidByText := true, laidKinds := [.data], laidTests := true, laidLooks := .later }
def CrcSumsUptoCardSaid : Prop := Claim7.holds Tryd.pinned (.plain (OpenSpec.upto crcSumsSpec)) crcSumsUptoCard

/-- THE SECOND FORM's CARD OF 'corbellaw02.CrcTells'. -/
def crcTellsUptoCard : Claim7 := { stood := { row := crcTellsUptoRow, standIns := [], harness := (true, "c28df5590af22dd3fb99915196a05bcc2cfff8f5ad2e081f61cb884bcae66c96"), looks := false }, kinds := [], alts := [], laidByText := true, laidKinds := [.data], laidTests := true, laidLooks := .later }
def CrcTellsUptoCardSaid : Prop := Claim7.holds Tryd.pinned (.plain (OpenSpec.upto crcTellsSpec)) crcTellsUptoCard

/-- THE SECOND FORM's CARD OF 'corbellaw02.CrcTurns'. -/
def crcTurnsUptoCard : Claim7 := { stood := { row := crcTurnsUptoRow, standIns := [], harness := (true, "c28df5590af22dd3fb99915196a05bcc2cfff8f5ad2e081f61cb884bcae66c96"), looks := false }, kinds := [], alts := [], laidByText := true, laidKinds := [.data], laidTests := true, laidLooks := .later }
def CrcTurnsUptoCardSaid : Prop := Claim7.holds Tryd.pinned (.plain (OpenSpec.upto crcTurnsSpec)) crcTurnsUptoCard

/-- THE SECOND FORM's CARD OF 'corbellaw02.CrcAdds'. -/
def crcAddsUptoCard : Claim7 := { stood := { row := crcAddsUptoRow, standIns := [], harness := (true, "c28df5590af22dd3fb99915196a05bcc2cfff8f5ad2e081f61cb884bcae66c96"), looks := false }, kinds := [], alts := [], laidByText := true, laidKinds := [.data], laidTests := true, laidLooks := .later }
def CrcAddsUptoCardSaid : Prop := Claim7.holds Tryd.pinned (.plain (OpenSpec.upto crcAddsSpec)) crcAddsUptoCard

/-- THE SECOND FORM's CARD OF 'corbellaw02.CrcBits'. -/
def crcBitsUptoCard : Claim7 := { stood := { row := crcBitsUptoRow, standIns := [], harness := (true, "c28df5590af22dd3fb99915196a05bcc2cfff8f5ad2e081f61cb884bcae66c96"), looks := false }, kinds := [], alts := [], laidByText := true, laidKinds := [.data], laidTests := true, laidLooks := .later }
def CrcBitsUptoCardSaid : Prop := Claim7.holds Tryd.pinned (.plain (OpenSpec.upto crcBitsSpec)) crcBitsUptoCard
end Rows
end Go.Proofs.YtncdfikcdchimaaDoor
