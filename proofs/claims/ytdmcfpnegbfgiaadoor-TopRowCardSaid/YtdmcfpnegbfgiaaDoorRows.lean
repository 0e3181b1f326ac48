/-
  NARROWER THAN 'FOR EVERY INPUT', by the rows' own cells (each row's printed sentence says how): TopSealed: laid · TopSpread: laid · TopRow: laid.
  DERIVED. THE GIVEN ROWS OF THIS SEAT. 3 by the template 'for every input the law returns true; each argument reads behind the call as it read before'; 0 by the template 'total and deterministic' (their statements: YtdmcfpnegbfgiaaDoorTotals.lean).
  GIVEN WITH THE SEED: the statements are not yours to turn. If you find one false, say at which input.
  Laid BY PROGRAM, IN A SANDBOX (cutbox-rows.mjs): the forced cells as the released guide's own fill.sh prints them over the translation 321a885bf0dcf260… (all of the seat's roots in one cut). By AI agents, Wed Nov 11 2026. No macro, syntax, notation, axiom, sorry.
-/
import Derived.Test.YtdmcfpnegbfgiaaDoorChecked
import GoSem.PinnedTables
import GoSem.Claim
import GoSem.ClaimJoined
import GoSem.ClaimMapViews
import Derived.JoinedTies
import Derived.KernelRfl
namespace Go.Proofs.YtdmcfpnegbfgiaaDoor
/- THE CELL 'sum', in the pinned program and in every row, IS THE sha256 OF THE DUMP (.gsa) THAT YtdmcfpnegbfgiaaDoorProg.lean LOADS. Nothing in Lean hashes anything: it is a label: what it is worth is what the hold of that sum in a sandbox is worth. -/
noncomputable def Tryd.pinned : Pinned := { name := "ytdmcfpnegbfgiaadoor", sum := "321a885bf0dcf2602d0c214fe2e342194fed88c4ce5ca5615552a94657d62019", checked := Tryd.checked }
namespace Rows
def none {H : Type} : Left H := { results := [], args := [] }

/- WHAT THE LISTED PACKAGE-LEVEL VARIABLES READ AS WHEN THE CALL BEGINS. Each datum BY PROGRAM (the guide's laid-datum.mjs) off the statement by which the dump's own 'gosem.cut.vars' lays the variable. In a bare row this is a premise. The card (YtdmcfpnegbfgiaaDoorCards.lean) ties it to the program's text. -/
def laid_corbel_crc_nibbles {H : Type} : DataW H := .agg [.lit (.int .u32 0), .lit (.int .u32 274646895), .lit (.int .u32 549293790), .lit (.int .u32 820201905), .lit (.int .u32 1098587580), .lit (.int .u32 1361435347), .lit (.int .u32 1640403810), .lit (.int .u32 1905808397), .lit (.int .u32 2197175160), .lit (.int .u32 2460548119), .lit (.int .u32 2722870694), .lit (.int .u32 2987750089), .lit (.int .u32 3280807620), .lit (.int .u32 3553878443), .lit (.int .u32 3811616794), .lit (.int .u32 4084100981)]
def laid_unicode_utf8_acceptRanges {H : Type} : DataW H := .agg [.agg [.lit (.int .u8 128), .lit (.int .u8 191)], .agg [.lit (.int .u8 160), .lit (.int .u8 191)], .agg [.lit (.int .u8 128), .lit (.int .u8 159)], .agg [.lit (.int .u8 144), .lit (.int .u8 191)], .agg [.lit (.int .u8 128), .lit (.int .u8 143)], .agg [.lit (.int .u8 0), .lit (.int .u8 0)], .agg [.lit (.int .u8 0), .lit (.int .u8 0)], .agg [.lit (.int .u8 0), .lit (.int .u8 0)], .agg [.lit (.int .u8 0), .lit (.int .u8 0)], .agg [.lit (.int .u8 0), .lit (.int .u8 0)], .agg [.lit (.int .u8 0), .lit (.int .u8 0)], .agg [.lit (.int .u8 0), .lit (.int .u8 0)], .agg [.lit (.int .u8 0), .lit (.int .u8 0)], .agg [.lit (.int .u8 0), .lit (.int .u8 0)], .agg [.lit (.int .u8 0), .lit (.int .u8 0)], .agg [.lit (.int .u8 0), .lit (.int .u8 0)]]
/-- One of Go's own tables, pinned by name: the form's constant. -/
def laid_unicode_utf8_first : DataW Unit := Go.Pinned.utf8First

/-- 'corbeltop.TopSealed': WHATEVER THE INPUT: true; the input reads as it did. -/
def topSealedSpec : ChangeSpec := { name := "topSealed", fn := fun _ => fun
  | [d1, d2, d3] => { results := [.lit (.bool true)], args := [d1, d2, d3] }
  | _ => none }
def topSealedRow : OpenClaim := { program := "ytdmcfpnegbfgiaadoor", sum := "321a885bf0dcf2602d0c214fe2e342194fed88c4ce5ca5615552a94657d62019", func := "corbel/corbeltop.TopSealed", spec := "topSealed", named := ["corbel/crc.nibbles"], apart := false, laid := [("corbel/crc.nibbles", laid_corbel_crc_nibbles)] }
def TopSealedSaid : Prop := topSealedRow.holds Tryd.pinned (OpenSpec.ofChange topSealedSpec)

/-- ITS FALSE NEIGHBOUR: 'it returns false'. Refute it at one input. -/
def topSealedWrong : ChangeSpec := { name := "topSealed", fn := fun _ => fun
  | [d1, d2, d3] => { results := [.lit (.bool false)], args := [d1, d2, d3] }
  | _ => none }
def TopSealedWrongFalsely : Prop := topSealedRow.holds Tryd.pinned (OpenSpec.ofChange topSealedWrong)

/-- 'corbeltop.TopSpread': WHATEVER THE INPUT: true; the input reads as it did. -/
def topSpreadSpec : ChangeSpec := { name := "topSpread", fn := fun _ => fun
  | [d1, d2] => { results := [.lit (.bool true)], args := [d1, d2] }
  | _ => none }
def topSpreadRow : OpenClaim := { program := "ytdmcfpnegbfgiaadoor", sum := "321a885bf0dcf2602d0c214fe2e342194fed88c4ce5ca5615552a94657d62019", func := "corbel/corbeltop.TopSpread", spec := "topSpread", named := ["corbel/crc.nibbles"], apart := false, laid := [("corbel/crc.nibbles", laid_corbel_crc_nibbles)] }
def TopSpreadSaid : Prop := topSpreadRow.holds Tryd.pinned (OpenSpec.ofChange topSpreadSpec)

/-- ITS FALSE NEIGHBOUR: 'it returns false'. Refute it at one input. -/
def topSpreadWrong : ChangeSpec := { name := "topSpread", fn := fun _ => fun
  | [d1, d2] => { results := [.lit (.bool false)], args := [d1, d2] }
  | _ => none }
def TopSpreadWrongFalsely : Prop := topSpreadRow.holds Tryd.pinned (OpenSpec.ofChange topSpreadWrong)

/-- 'corbeltop.TopRow': WHATEVER THE INPUT: true; the input reads as it did. -/
def topRowSpec : ChangeSpec := { name := "topRow", fn := fun _ => fun
  | [d1, d2] => { results := [.lit (.bool true)], args := [d1, d2] }
  | _ => none }
def topRowRow : OpenClaim := { program := "ytdmcfpnegbfgiaadoor", sum := "321a885bf0dcf2602d0c214fe2e342194fed88c4ce5ca5615552a94657d62019", func := "corbel/corbeltop.TopRow", spec := "topRow", inPlace := ["internal/bytealg.IndexByteString", "internal/bytealg.IndexString"], named := ["corbel/crc.nibbles", "unicode/utf8.first", "unicode/utf8.acceptRanges", "internal/bytealg.MaxLen"], apart := false, laid := [("corbel/crc.nibbles", laid_corbel_crc_nibbles), ("unicode/utf8.acceptRanges", laid_unicode_utf8_acceptRanges), ("unicode/utf8.first", laid_unicode_utf8_first)] }
def TopRowSaid : Prop := topRowRow.holds Tryd.pinned (OpenSpec.ofChange topRowSpec)

/-- ITS FALSE NEIGHBOUR: 'it returns false'. Refute it at one input. -/
def topRowWrong : ChangeSpec := { name := "topRow", fn := fun _ => fun
  | [d1, d2] => { results := [.lit (.bool false)], args := [d1, d2] }
  | _ => none }
def TopRowWrongFalsely : Prop := topRowRow.holds Tryd.pinned (OpenSpec.ofChange topRowWrong)

/- THE SECOND FORM. 'bulk': how many values and letters a reading holds, each counted each time it is reached (what is shared counts as often as it is met; a slice's spare places count too). A statement '..UptoSaid' is the law's where the arguments, and the package variables that the reading takes, are together of bulk at most 1048576: NARROWER than '..Said'. Prove '..Said' where nothing that the law and all that it calls make is longer than what came in: it says more and counts as full. Else prove '..UptoSaid'. A law counts once. -/
mutual
def uptoBulk {H : Type} : DataW H → Nat
  | .lit (.string bytes) => bytes.length + 1
  | .lit _ => 1
  | .nil => 1
  | .ptr d => uptoBulk d + 1
  | .slice elems spare => uptoBulkAll elems + uptoBulkAll spare + 1
  | .agg parts => uptoBulkAll parts + 1
  | .iface _ d => uptoBulk d + 1
  | .map entries => uptoBulkEntries entries + 1
  | .held _ => 1
def uptoBulkAll {H : Type} : List (DataW H) → Nat
  | [] => 0
  | d :: r => uptoBulk d + uptoBulkAll r
def uptoBulkEntries {H : Type} : List (Lit × DataW H) → Nat
  | [] => 0
  | x :: r => uptoBulkEntry x + uptoBulkEntries r
def uptoBulkEntry {H : Type} : Lit × DataW H → Nat
  | (.string bytes, d) => bytes.length + uptoBulk d + 1
  | (_, d) => uptoBulk d + 1
 end
def uptoSmall : (H : Type) → List (DataW H) → Bool := fun _ ds => decide (uptoBulkAll ds ≤ 1048576)
def OpenSpec.upto (s : _root_.Go.ChangeSpec) : _root_.Go.OpenSpec := { _root_.Go.OpenSpec.ofChange s with cond := some uptoSmall }

/-- 'corbeltop.TopSealed', WHERE WHAT IT READS IS OF BULK AT MOST 1048576: true; the input reads as it did. -/
def topSealedUptoRow : OpenClaim := { program := "ytdmcfpnegbfgiaadoor", sum := "321a885bf0dcf2602d0c214fe2e342194fed88c4ce5ca5615552a94657d62019", func := "corbel/corbeltop.TopSealed", spec := "topSealed", named := ["corbel/crc.nibbles"], apart := false, laid := [("corbel/crc.nibbles", laid_corbel_crc_nibbles)], narrowed := true }
def TopSealedUptoSaid : Prop := topSealedUptoRow.holds Tryd.pinned (OpenSpec.upto topSealedSpec)

/-- 'corbeltop.TopSpread', WHERE WHAT IT READS IS OF BULK AT MOST 1048576: true; the input reads as it did. -/
def topSpreadUptoRow : OpenClaim := { program := "ytdmcfpnegbfgiaadoor", sum := "321a885bf0dcf2602d0c214fe2e342194fed88c4ce5ca5615552a94657d62019", func := "corbel/corbeltop.TopSpread", spec := "topSpread", named := ["corbel/crc.nibbles"], apart := false, laid := [("corbel/crc.nibbles", laid_corbel_crc_nibbles)], narrowed := true }
def TopSpreadUptoSaid : Prop := topSpreadUptoRow.holds Tryd.pinned (OpenSpec.upto topSpreadSpec)

/-- 'corbeltop.TopRow', WHERE WHAT IT READS IS OF BULK AT MOST 1048576: true; the input reads as it did. -/
def topRowUptoRow : OpenClaim := { program := "ytdmcfpnegbfgiaadoor", sum := "321a885bf0dcf2602d0c214fe2e342194fed88c4ce5ca5615552a94657d62019", func := "corbel/corbeltop.TopRow", spec := "topRow", inPlace := ["internal/bytealg.IndexByteString", "internal/bytealg.IndexString"], named := ["corbel/crc.nibbles", "unicode/utf8.first", "unicode/utf8.acceptRanges", "internal/bytealg.MaxLen"], apart := false, laid := [("corbel/crc.nibbles", laid_corbel_crc_nibbles), ("unicode/utf8.acceptRanges", laid_unicode_utf8_acceptRanges), ("unicode/utf8.first", laid_unicode_utf8_first)], narrowed := true }
def TopRowUptoSaid : Prop := topRowUptoRow.holds Tryd.pinned (OpenSpec.upto topRowSpec)

end Rows
end Go.Proofs.YtdmcfpnegbfgiaaDoor
