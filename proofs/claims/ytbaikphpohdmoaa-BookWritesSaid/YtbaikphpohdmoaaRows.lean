/-
  No cell of these rows narrows 'for every input' (looked for: loops, veiled, ifaces, maps, wideKeys, modest, calm, conditions, laid).
  DERIVED. THE GIVEN ROWS OF THIS SEAT. 7 by the template 'for every input the law returns true; each argument reads behind the call as it read before'; 0 by the template 'total and deterministic' (their statements: YtbaikphpohdmoaaTotals.lean).
  GIVEN WITH THE SEED: the statements are not yours to turn. If you find one false, say at which input.
  Laid BY PROGRAM, IN A SANDBOX (cutbox-rows.mjs): the forced cells as the released guide's own fill.sh prints them over the translation 4fdde806c05372c0… (all of the seat's roots in one cut). By AI agents, Wed Nov 11 2026. No macro, syntax, notation, axiom, sorry.
-/
import Derived.Test.YtbaikphpohdmoaaChecked
import GoSem.Claim
import GoSem.ClaimJoined
import GoSem.ClaimMapViews
import Derived.JoinedTies
import Derived.KernelRfl
namespace Go.Proofs.Ytbaikphpohdmoaa
/- THE CELL 'sum', in the pinned program and in every row, IS THE sha256 OF THE DUMP (.gsa) THAT YtbaikphpohdmoaaProg.lean LOADS. Nothing in Lean hashes anything: it is a label: what it is worth is what the hold of that sum in a sandbox is worth. -/
noncomputable def Try.pinned : Pinned := { name := "ytbaikphpohdmoaa", sum := "4fdde806c05372c0c1316142be9de4269a47a4ba98ebac96faafa906eef48bbe", checked := Try.checked }
namespace Rows
def none {H : Type} : Left H := { results := [], args := [] }

/-- 'corbellaw19.LmapOrder': WHATEVER THE INPUT: true; the input reads as it did. -/
def lmapOrderSpec : ChangeSpec := { name := "lmapOrder", fn := fun _ => fun
  | [d1, d2] => { results := [.lit (.bool true)], args := [d1, d2] }
  | _ => none }
def lmapOrderRow : OpenClaim := { program := "ytbaikphpohdmoaa", sum := "4fdde806c05372c0c1316142be9de4269a47a4ba98ebac96faafa906eef48bbe", func := "corbel/corbellaw19.LmapOrder", spec := "lmapOrder", plainKeys := false, apart := false }
def LmapOrderSaid : Prop := lmapOrderRow.holds Try.pinned (OpenSpec.ofChange lmapOrderSpec)

/-- ITS FALSE NEIGHBOUR: 'it returns false'. Refute it at one input. -/
def lmapOrderWrong : ChangeSpec := { name := "lmapOrder", fn := fun _ => fun
  | [d1, d2] => { results := [.lit (.bool false)], args := [d1, d2] }
  | _ => none }
def LmapOrderWrongFalsely : Prop := lmapOrderRow.holds Try.pinned (OpenSpec.ofChange lmapOrderWrong)

/-- 'corbellaw19.LmapScripts': WHATEVER THE INPUT: true; the input reads as it did. -/
def lmapScriptsSpec : ChangeSpec := { name := "lmapScripts", fn := fun _ => fun
  | [d1, d2, d3] => { results := [.lit (.bool true)], args := [d1, d2, d3] }
  | _ => none }
def lmapScriptsRow : OpenClaim := { program := "ytbaikphpohdmoaa", sum := "4fdde806c05372c0c1316142be9de4269a47a4ba98ebac96faafa906eef48bbe", func := "corbel/corbellaw19.LmapScripts", spec := "lmapScripts", unfollowed := true, recurses := true, plainKeys := false, apart := false }
def LmapScriptsSaid : Prop := lmapScriptsRow.holds Try.pinned (OpenSpec.ofChange lmapScriptsSpec)

/-- ITS FALSE NEIGHBOUR: 'it returns false'. Refute it at one input. -/
def lmapScriptsWrong : ChangeSpec := { name := "lmapScripts", fn := fun _ => fun
  | [d1, d2, d3] => { results := [.lit (.bool false)], args := [d1, d2, d3] }
  | _ => none }
def LmapScriptsWrongFalsely : Prop := lmapScriptsRow.holds Try.pinned (OpenSpec.ofChange lmapScriptsWrong)

/-- 'corbellaw19.LmapNil': WHATEVER THE INPUT: true; the input reads as it did. -/
def lmapNilSpec : ChangeSpec := { name := "lmapNil", fn := fun _ => fun
  | [d1, d2] => { results := [.lit (.bool true)], args := [d1, d2] }
  | _ => none }
def lmapNilRow : OpenClaim := { program := "ytbaikphpohdmoaa", sum := "4fdde806c05372c0c1316142be9de4269a47a4ba98ebac96faafa906eef48bbe", func := "corbel/corbellaw19.LmapNil", spec := "lmapNil", unfollowed := true, recurses := true, plainKeys := false, apart := false }
def LmapNilSaid : Prop := lmapNilRow.holds Try.pinned (OpenSpec.ofChange lmapNilSpec)

/-- ITS FALSE NEIGHBOUR: 'it returns false'. Refute it at one input. -/
def lmapNilWrong : ChangeSpec := { name := "lmapNil", fn := fun _ => fun
  | [d1, d2] => { results := [.lit (.bool false)], args := [d1, d2] }
  | _ => none }
def LmapNilWrongFalsely : Prop := lmapNilRow.holds Try.pinned (OpenSpec.ofChange lmapNilWrong)

/-- 'corbellaw19.LmapSums': WHATEVER THE INPUT: true; the input reads as it did. -/
def lmapSumsSpec : ChangeSpec := { name := "lmapSums", fn := fun _ => fun
  | [d] => { results := [.lit (.bool true)], args := [d] }
  | _ => none }
def lmapSumsRow : OpenClaim := { program := "ytbaikphpohdmoaa", sum := "4fdde806c05372c0c1316142be9de4269a47a4ba98ebac96faafa906eef48bbe", func := "corbel/corbellaw19.LmapSums", spec := "lmapSums", unfollowed := true, recurses := true, plainKeys := false, apart := false }
def LmapSumsSaid : Prop := lmapSumsRow.holds Try.pinned (OpenSpec.ofChange lmapSumsSpec)

/-- ITS FALSE NEIGHBOUR: 'it returns false'. Refute it at one input. -/
def lmapSumsWrong : ChangeSpec := { name := "lmapSums", fn := fun _ => fun
  | [d] => { results := [.lit (.bool false)], args := [d] }
  | _ => none }
def LmapSumsWrongFalsely : Prop := lmapSumsRow.holds Try.pinned (OpenSpec.ofChange lmapSumsWrong)

/-- 'corbellaw10.BookReads': WHATEVER THE INPUT: true; the input reads as it did. -/
def bookReadsSpec : ChangeSpec := { name := "bookReads", fn := fun _ => fun
  | [d1, d2] => { results := [.lit (.bool true)], args := [d1, d2] }
  | _ => none }
def bookReadsRow : OpenClaim := { program := "ytbaikphpohdmoaa", sum := "4fdde806c05372c0c1316142be9de4269a47a4ba98ebac96faafa906eef48bbe", func := "corbel/corbellaw10.BookReads", spec := "bookReads", unfollowed := true, recurses := true, plainKeys := false, apart := false }
def BookReadsSaid : Prop := bookReadsRow.holds Try.pinned (OpenSpec.ofChange bookReadsSpec)

/-- ITS FALSE NEIGHBOUR: 'it returns false'. Refute it at one input. -/
def bookReadsWrong : ChangeSpec := { name := "bookReads", fn := fun _ => fun
  | [d1, d2] => { results := [.lit (.bool false)], args := [d1, d2] }
  | _ => none }
def BookReadsWrongFalsely : Prop := bookReadsRow.holds Try.pinned (OpenSpec.ofChange bookReadsWrong)

/-- 'corbellaw10.BookWrites': WHATEVER THE INPUT: true; the input reads as it did. -/
def bookWritesSpec : ChangeSpec := { name := "bookWrites", fn := fun _ => fun
  | [d1, d2, d3] => { results := [.lit (.bool true)], args := [d1, d2, d3] }
  | _ => none }
def bookWritesRow : OpenClaim := { program := "ytbaikphpohdmoaa", sum := "4fdde806c05372c0c1316142be9de4269a47a4ba98ebac96faafa906eef48bbe", func := "corbel/corbellaw10.BookWrites", spec := "bookWrites", unfollowed := true, recurses := true, plainKeys := false, apart := false }
def BookWritesSaid : Prop := bookWritesRow.holds Try.pinned (OpenSpec.ofChange bookWritesSpec)

/-- ITS FALSE NEIGHBOUR: 'it returns false'. Refute it at one input. -/
def bookWritesWrong : ChangeSpec := { name := "bookWrites", fn := fun _ => fun
  | [d1, d2, d3] => { results := [.lit (.bool false)], args := [d1, d2, d3] }
  | _ => none }
def BookWritesWrongFalsely : Prop := bookWritesRow.holds Try.pinned (OpenSpec.ofChange bookWritesWrong)

/-- 'corbellaw10.BookFresh': WHATEVER THE INPUT: true; the input reads as it did. -/
def bookFreshSpec : ChangeSpec := { name := "bookFresh", fn := fun _ => fun
  | [d1, d2] => { results := [.lit (.bool true)], args := [d1, d2] }
  | _ => none }
def bookFreshRow : OpenClaim := { program := "ytbaikphpohdmoaa", sum := "4fdde806c05372c0c1316142be9de4269a47a4ba98ebac96faafa906eef48bbe", func := "corbel/corbellaw10.BookFresh", spec := "bookFresh", unfollowed := true, recurses := true, plainKeys := false, apart := false }
def BookFreshSaid : Prop := bookFreshRow.holds Try.pinned (OpenSpec.ofChange bookFreshSpec)

/-- ITS FALSE NEIGHBOUR: 'it returns false'. Refute it at one input. -/
def bookFreshWrong : ChangeSpec := { name := "bookFresh", fn := fun _ => fun
  | [d1, d2] => { results := [.lit (.bool false)], args := [d1, d2] }
  | _ => none }
def BookFreshWrongFalsely : Prop := bookFreshRow.holds Try.pinned (OpenSpec.ofChange bookFreshWrong)

/- THE SECOND FORM. 'bulk': how many values and letters a reading holds, each counted each time it is reached (what is shared counts as often as it is met; a slice's spare places count too). A statement '..UptoSaid' is the law's where the arguments, and the package variables that the reading takes, are together of bulk at most 1048576: NARROWER than '..Said'. Prove '..Said' where nothing that the law and all that it calls make is longer than what came in: it says more and counts as full. Else prove '..UptoSaid'. A law counts once. -/
mutual
def uptoBulk {H : Type} : DataW H → Nat
  | .lit (.string bytes) => bytes.length + 1
  | .lit _ => 1
  | .nil => 1
  | .ptr d => uptoBulk d + 1
  | .slice elems spare => uptoBulkAll elems + uptoBulkAll spare + 1
  | .agg parts => uptoBulkAll parts + 1
  | .iface _ d => uptoBulk d + 1
  | .map entries => uptoBulkEntries entries + 1
  | .held _ => 1
def uptoBulkAll {H : Type} : List (DataW H) → Nat
  | [] => 0
  | d :: r => uptoBulk d + uptoBulkAll r
def uptoBulkEntries {H : Type} : List (Lit × DataW H) → Nat
  | [] => 0
  | x :: r => uptoBulkEntry x + uptoBulkEntries r
def uptoBulkEntry {H : Type} : Lit × DataW H → Nat
  | (.string bytes, d) => bytes.length + uptoBulk d + 1
  | (_, d) => uptoBulk d + 1
 end
def uptoSmall : (H : Type) → List (DataW H) → Bool := fun _ ds => decide (uptoBulkAll ds ≤ 1048576)
def OpenSpec.upto (s : _root_.Go.ChangeSpec) : _root_.Go.OpenSpec := { _root_.Go.OpenSpec.ofChange s with cond := some uptoSmall }

/-- 'corbellaw19.LmapOrder', WHERE WHAT IT READS IS OF BULK AT MOST 1048576: true; the input reads as it did. -/
def lmapOrderUptoRow : OpenClaim := { program := "ytbaikphpohdmoaa", sum := "4fdde806c05372c0c1316142be9de4269a47a4ba98ebac96faafa906eef48bbe", func := "corbel/corbellaw19.LmapOrder", spec := "lmapOrder", plainKeys := false, apart := false, narrowed := true }
def LmapOrderUptoSaid : Prop := lmapOrderUptoRow.holds Try.pinned (OpenSpec.upto lmapOrderSpec)

/-- 'corbellaw19.LmapScripts', WHERE WHAT IT READS IS OF BULK AT MOST 1048576: true; the input reads as it did. -/
def lmapScriptsUptoRow : OpenClaim := { program := "ytbaikphpohdmoaa", sum := "4fdde806c05372c0c1316142be9de4269a47a4ba98ebac96faafa906eef48bbe", func := "corbel/corbellaw19.LmapScripts", spec := "lmapScripts", unfollowed := true, recurses := true, plainKeys := false, apart := false, narrowed := true }
def LmapScriptsUptoSaid : Prop := lmapScriptsUptoRow.holds Try.pinned (OpenSpec.upto lmapScriptsSpec)

/-- 'corbellaw19.LmapNil', WHERE WHAT IT READS IS OF BULK AT MOST 1048576: true; the input reads as it did. -/
def lmapNilUptoRow : OpenClaim := { program := "ytbaikphpohdmoaa", sum := "4fdde806c05372c0c1316142be9de4269a47a4ba98ebac96faafa906eef48bbe", func := "corbel/corbellaw19.LmapNil", spec := "lmapNil", unfollowed := true, recurses := true, plainKeys := false, apart := false, narrowed := true }
def LmapNilUptoSaid : Prop := lmapNilUptoRow.holds Try.pinned (OpenSpec.upto lmapNilSpec)

/-- 'corbellaw19.LmapSums', WHERE WHAT IT READS IS OF BULK AT MOST 1048576: true; the input reads as it did. -/
def lmapSumsUptoRow : OpenClaim := { program := "ytbaikphpohdmoaa", sum := "4fdde806c05372c0c1316142be9de4269a47a4ba98ebac96faafa906eef48bbe", func := "corbel/corbellaw19.LmapSums", spec := "lmapSums", unfollowed := true, recurses := true, plainKeys := false, apart := false, narrowed := true }
def LmapSumsUptoSaid : Prop := lmapSumsUptoRow.holds Try.pinned (OpenSpec.upto lmapSumsSpec)

/-- 'corbellaw10.BookReads', WHERE WHAT IT READS IS OF BULK AT MOST 1048576: true; the input reads as it did. -/
def bookReadsUptoRow : OpenClaim := { program := "ytbaikphpohdmoaa", sum := "4fdde806c05372c0c1316142be9de4269a47a4ba98ebac96faafa906eef48bbe", func := "corbel/corbellaw10.BookReads", spec := "bookReads", unfollowed := true, recurses := true, plainKeys := false, apart := false, narrowed := true }
def BookReadsUptoSaid : Prop := bookReadsUptoRow.holds Try.pinned (OpenSpec.upto bookReadsSpec)

/-- 'corbellaw10.BookWrites', WHERE WHAT IT READS IS OF BULK AT MOST 1048576: true; the input reads as it did. -/
def bookWritesUptoRow : OpenClaim := { program := "ytbaikphpohdmoaa", sum := "4fdde806c05372c0c1316142be9de4269a47a4ba98ebac96faafa906eef48bbe", func := "corbel/corbellaw10.BookWrites", spec := "bookWrites", unfollowed := true, recurses := true, plainKeys := false, apart := false, narrowed := true }
def BookWritesUptoSaid : Prop := bookWritesUptoRow.holds Try.pinned (OpenSpec.upto bookWritesSpec)

/-- 'corbellaw10.BookFresh', WHERE WHAT IT READS IS OF BULK AT MOST 1048576: true; the input reads as it did. -/
def bookFreshUptoRow : OpenClaim := { program := "ytbaikphpohdmoaa", sum := "4fdde806c05372c0c1316142be9de4269a47a4ba98ebac96faafa906eef48bbe", func := "corbel/corbellaw10.BookFresh", spec := "bookFresh", unfollowed := true, recurses := true, plainKeys := false, apart := false, narrowed := true }
def BookFreshUptoSaid : Prop := bookFreshUptoRow.holds Try.pinned (OpenSpec.upto bookFreshSpec)

end Rows
end Go.Proofs.Ytbaikphpohdmoaa
