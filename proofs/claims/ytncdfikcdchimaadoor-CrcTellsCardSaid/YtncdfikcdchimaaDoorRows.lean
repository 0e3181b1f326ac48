/-
  NARROWER THAN 'FOR EVERY INPUT', by the rows' own cells (each row's printed sentence says how): CrcSums: laid · CrcTells: laid · CrcTurns: laid · CrcAdds: laid · CrcBits: laid.
  DERIVED. THE GIVEN ROWS OF THIS SEAT. 5 by the template 'for every input the law returns true; each argument reads behind the call as it read before'; 0 by the template 'total and deterministic' (their statements: YtncdfikcdchimaaDoorTotals.lean).
  GIVEN WITH THE SEED: the statements are not yours to turn. If you find one false, say at which input.
  Laid BY PROGRAM, IN A SANDBOX (cutbox-rows.mjs): the forced cells as the released guide's own fill.sh prints them over the translation 4bbf166077833f2b… (all of the seat's roots in one cut). By AI agents, Wed Nov 11 2026. No macro, syntax, notation, axiom, sorry.
-/
import Derived.Test.YtncdfikcdchimaaDoorChecked
import GoSem.Claim
import GoSem.ClaimJoined
import GoSem.ClaimMapViews
import Derived.JoinedTies
import Derived.KernelRfl
namespace Go.Proofs.YtncdfikcdchimaaDoor
/- THE CELL 'sum', in the pinned program and in every row, IS THE sha256 OF THE DUMP (.gsa) THAT YtncdfikcdchimaaDoorProg.lean LOADS. Nothing in Lean hashes anything: it is a label: what it is worth is what the hold of that sum in a sandbox is worth. -/
noncomputable def Tryd.pinned : Pinned := { name := "ytncdfikcdchimaadoor", sum := "4bbf166077833f2bacfe1d1a367f390844367657ecbcee3f74f131a7e1f2691d", checked := Tryd.checked }
namespace Rows
def none {H : Type} : Left H := { results := [], args := [] }

/- WHAT THE LISTED PACKAGE-LEVEL VARIABLES READ AS WHEN THE CALL BEGINS. Each datum BY PROGRAM (the guide's laid-datum.mjs) off the statement by which the dump's own 'gosem.cut.vars' lays the variable. In a bare row this is a premise. The card (YtncdfikcdchimaaDoorCards.lean) ties it to the program's text. -/
def laid_corbel_crc_nibbles {H : Type} : DataW H := .agg [.lit (.int .u32 0), .lit (.int .u32 274646895), .lit (.int .u32 549293790), .lit (.int .u32 820201905), .lit (.int .u32 1098587580), .lit (.int .u32 1361435347), .lit (.int .u32 1640403810), .lit (.int .u32 1905808397), .lit (.int .u32 2197175160), .lit (.int .u32 2460548119), .lit (.int .u32 2722870694), .lit (.int .u32 2987750089), .lit (.int .u32 3280807620), .lit (.int .u32 3553878443), .lit (.int .u32 3811616794), .lit (.int .u32 4084100981)]

/-- 'corbellaw02.CrcSums': WHATEVER THE INPUT: true; the input reads as it did. -/
def crcSumsSpec : ChangeSpec := { name := "crcSums", fn := fun _ => fun
  | [d1, d2] => { results := [.lit (.bool true)], args := [d1, d2] }
  | _ => none }
def crcSumsRow : OpenClaim := { program := "ytncdfikcdchimaadoor", sum := "4bbf166077833f2bacfe1d1a367f390844367657ecbcee3f74f131a7e1f2691d", func := "corbel/corbellaw02.CrcSums", spec := "crcSums", named := ["corbel/crc.nibbles"], apart := false, laid := [("corbel/crc.nibbles", laid_corbel_crc_nibbles)] }
def CrcSumsSaid : Prop := crcSumsRow.holds Tryd.pinned (OpenSpec.ofChange crcSumsSpec)

/-- ITS FALSE NEIGHBOUR: 'it returns false'. Refute it at one input. -/
def crcSumsWrong : ChangeSpec := { name := "crcSums", fn := fun _ => fun
  | [d1, d2] => { results := [.lit (.bool false)], args := [d1, d2] }
  | _ => none }
def CrcSumsWrongFalsely : Prop := crcSumsRow.holds Tryd.pinned (OpenSpec.ofChange crcSumsWrong)

/-- 'corbellaw02.CrcTells': WHATEVER THE INPUT: true; the input reads as it did. -/
def crcTellsSpec : ChangeSpec := { name := "crcTells", fn := fun _ => fun
  | [d1, d2, d3] => { results := [.lit (.bool true)], args := [d1, d2, d3] }
  | _ => none }
def crcTellsRow : OpenClaim := { program := "ytncdfikcdchimaadoor", sum := "4bbf166077833f2bacfe1d1a367f390844367657ecbcee3f74f131a7e1f2691d", func := "corbel/corbellaw02.CrcTells", spec := "crcTells", named := ["corbel/crc.nibbles"], apart := false, laid := [("corbel/crc.nibbles", laid_corbel_crc_nibbles)] }
def CrcTellsSaid : Prop := crcTellsRow.holds Tryd.pinned (OpenSpec.ofChange crcTellsSpec)

/-- ITS FALSE NEIGHBOUR: 'it returns false'. Refute it at one input. -/
def crcTellsWrong : ChangeSpec := { name := "crcTells", fn := fun _ => fun
  | [d1, d2, d3] => { results := [.lit (.bool false)], args := [d1, d2, d3] }
  | _ => none }
def CrcTellsWrongFalsely : Prop := crcTellsRow.holds Tryd.pinned (OpenSpec.ofChange crcTellsWrong)

/-- 'corbellaw02.CrcTurns': WHATEVER THE INPUT: true; the input reads as it did. -/
def crcTurnsSpec : ChangeSpec := { name := "crcTurns", fn := fun _ => fun
  | [d1, d2, d3] => { results := [.lit (.bool true)], args := [d1, d2, d3] }
  | _ => none }
def crcTurnsRow : OpenClaim := { program := "ytncdfikcdchimaadoor", sum := "4bbf166077833f2bacfe1d1a367f390844367657ecbcee3f74f131a7e1f2691d", func := "corbel/corbellaw02.CrcTurns", spec := "crcTurns", named := ["corbel/crc.nibbles"], apart := false, laid := [("corbel/crc.nibbles", laid_corbel_crc_nibbles)] }
def CrcTurnsSaid : Prop := crcTurnsRow.holds Tryd.pinned (OpenSpec.ofChange crcTurnsSpec)

/-- ITS FALSE NEIGHBOUR: 'it returns false'. Refute it at one input. -/
def crcTurnsWrong : ChangeSpec := { name := "crcTurns", fn := fun _ => fun
  | [d1, d2, d3] => { results := [.lit (.bool false)], args := [d1, d2, d3] }
  | _ => none }
def CrcTurnsWrongFalsely : Prop := crcTurnsRow.holds Tryd.pinned (OpenSpec.ofChange crcTurnsWrong)

/-- 'corbellaw02.CrcAdds': WHATEVER THE INPUT: true; the input reads as it did. -/
def crcAddsSpec : ChangeSpec := { name := "crcAdds", fn := fun _ => fun
  | [d1, d2, d3] => { results := [.lit (.bool true)], args := [d1, d2, d3] }
  | _ => none }
def crcAddsRow : OpenClaim := { program := "ytncdfikcdchimaadoor", sum := "4bbf166077833f2bacfe1d1a367f390844367657ecbcee3f74f131a7e1f2691d", func := "corbel/corbellaw02.CrcAdds", spec := "crcAdds", named := ["corbel/crc.nibbles"], apart := false, laid := [("corbel/crc.nibbles", laid_corbel_crc_nibbles)] }
def CrcAddsSaid : Prop := crcAddsRow.holds Tryd.pinned (OpenSpec.ofChange crcAddsSpec)

/-- ITS FALSE NEIGHBOUR: 'it returns false'. Refute it at one input. -/
def crcAddsWrong : ChangeSpec := { name := "crcAdds", fn := fun _ => fun
  | [d1, d2, d3] => { results := [.lit (.bool false)], args := [d1, d2, d3] }
  | _ => none }
def CrcAddsWrongFalsely : Prop := crcAddsRow.holds Tryd.pinned (OpenSpec.ofChange crcAddsWrong)

/-- 'corbellaw02.CrcBits': WHATEVER THE INPUT: true; the input reads as it did. -/
def crcBitsSpec : ChangeSpec := { name := "crcBits", fn := fun _ => fun
  | [d1, d2, d3] => { results := [.lit (.bool true)], args := [d1, d2, d3] }
  | _ => none }
def crcBitsRow : OpenClaim := { program := "ytncdfikcdchimaadoor", sum := "4bbf166077833f2bacfe1d1a367f390844367657ecbcee3f74f131a7e1f2691d", func := "corbel/corbellaw02.CrcBits", spec := "crcBits", named := ["corbel/crc.nibbles"], apart := false, laid := [("corbel/crc.nibbles", laid_corbel_crc_nibbles)] }
def CrcBitsSaid : Prop := crcBitsRow.holds Tryd.pinned (OpenSpec.ofChange crcBitsSpec)

/-- ITS FALSE NEIGHBOUR: 'it returns false'. Refute it at one input. -/
def crcBitsWrong : ChangeSpec := { name := "crcBits", fn := fun _ => fun
  | [d1, d2, d3] => { results := [.lit (.bool false)], args := [d1, d2, d3] }
  | _ => none }
def CrcBitsWrongFalsely : Prop := crcBitsRow.holds Tryd.pinned (OpenSpec.ofChange crcBitsWrong)

/- THE SECOND FORM. 'bulk': how many values and letters a reading holds, each counted each time it is reached (what is shared counts as often as it is met; a slice's spare places count too). A statement '..UptoSaid' is the law's where the arguments, and the package variables that the reading takes, are together of bulk at most 1048576: NARROWER than '..Said'. Prove '..Said' where nothing that the law and all that it calls make is longer than what came in: it says more and counts as full. Else prove '..UptoSaid'. A law counts once. -/
mutual
def uptoBulk {H : Type} : DataW H → Nat
  | .lit (.string bytes) => bytes.length + 1
  | .lit _ => 1
  | .nil => 1
  | .ptr d => uptoBulk d + 1
  | .slice elems spare => uptoBulkAll elems + uptoBulkAll spare + 1
  | .agg parts => uptoBulkAll parts + 1
  | .iface _ d => uptoBulk d + 1
  | .map entries => uptoBulkEntries entries + 1
  | .held _ => 1
def uptoBulkAll {H : Type} : List (DataW H) → Nat
  | [] => 0
  | d :: r => uptoBulk d + uptoBulkAll r
def uptoBulkEntries {H : Type} : List (Lit × DataW H) → Nat
  | [] => 0
  | x :: r => uptoBulkEntry x + uptoBulkEntries r
def uptoBulkEntry {H : Type} : Lit × DataW H → Nat
  | (.string bytes, d) => bytes.length + uptoBulk d + 1
  | (_, d) => uptoBulk d + 1
 end
def uptoSmall : (H : Type) → List (DataW H) → Bool := fun _ ds => decide (uptoBulkAll ds ≤ 1048576)
def OpenSpec.upto (s : _root_.Go.ChangeSpec) : _root_.Go.OpenSpec := { _root_.Go.OpenSpec.ofChange s with cond := some uptoSmall }

/-- 'corbellaw02.CrcSums', WHERE WHAT IT READS IS OF BULK AT MOST 1048576: true; the input reads as it did. -/
def crcSumsUptoRow : OpenClaim := { program := "ytncdfikcdchimaadoor", sum := "4bbf166077833f2bacfe1d1a367f390844367657ecbcee3f74f131a7e1f2691d", func := "corbel/corbellaw02.CrcSums", spec := "crcSums", named := ["corbel/crc.nibbles"], apart := false, laid := [("corbel/crc.nibbles", laid_corbel_crc_nibbles)], narrowed := true }
def CrcSumsUptoSaid : Prop := crcSumsUptoRow.holds Tryd.pinned (OpenSpec.upto crcSumsSpec)

/-- 'corbellaw02.CrcTells', WHERE WHAT IT READS IS OF BULK AT MOST 1048576: true; the input reads as it did. -/
def crcTellsUptoRow : OpenClaim := { program := "ytncdfikcdchimaadoor", sum := "4bbf166077833f2bacfe1d1a367f390844367657ecbcee3f74f131a7e1f2691d", func := "corbel/corbellaw02.CrcTells", spec := "crcTells", named := ["corbel/crc.nibbles"], apart := false, laid := [("corbel/crc.nibbles", laid_corbel_crc_nibbles)], narrowed := true }
def CrcTellsUptoSaid : Prop := crcTellsUptoRow.holds Tryd.pinned (OpenSpec.upto crcTellsSpec)

/-- 'corbellaw02.CrcTurns', WHERE WHAT IT READS IS OF BULK AT MOST 1048576: true; the input reads as it did. -/
def crcTurnsUptoRow : OpenClaim := { program := "ytncdfikcdchimaadoor", sum := "4bbf166077833f2bacfe1d1a367f390844367657ecbcee3f74f131a7e1f2691d", func := "corbel/corbellaw02.CrcTurns", spec := "crcTurns", named := ["corbel/crc.nibbles"], apart := false, laid := [("corbel/crc.nibbles", laid_corbel_crc_nibbles)], narrowed := true }
def CrcTurnsUptoSaid : Prop := crcTurnsUptoRow.holds Tryd.pinned (OpenSpec.upto crcTurnsSpec)

/-- 'corbellaw02.CrcAdds', WHERE WHAT IT READS IS OF BULK AT MOST 1048576: true; the input reads as it did. -/
def crcAddsUptoRow : OpenClaim := { program := "ytncdfikcdchimaadoor", sum := "4bbf166077833f2bacfe1d1a367f390844367657ecbcee3f74f131a7e1f2691d", func := "corbel/corbellaw02.CrcAdds", spec := "crcAdds", named := ["corbel/crc.nibbles"], apart := false, laid := [("corbel/crc.nibbles", laid_corbel_crc_nibbles)], narrowed := true }
def CrcAddsUptoSaid : Prop := crcAddsUptoRow.holds Tryd.pinned (OpenSpec.upto crcAddsSpec)

/-- 'corbellaw02.CrcBits', WHERE WHAT IT READS IS OF BULK AT MOST 1048576: true; the input reads as it did. -/
def crcBitsUptoRow : OpenClaim := { program := "ytncdfikcdchimaadoor", sum := "4bbf166077833f2bacfe1d1a367f390844367657ecbcee3f74f131a7e1f2691d", func := "corbel/corbellaw02.CrcBits", spec := "crcBits", named := ["corbel/crc.nibbles"], apart := false, laid := [("corbel/crc.nibbles", laid_corbel_crc_nibbles)], narrowed := true }
def CrcBitsUptoSaid : Prop := crcBitsUptoRow.holds Tryd.pinned (OpenSpec.upto crcBitsSpec)

end Rows
end Go.Proofs.YtncdfikcdchimaaDoor
