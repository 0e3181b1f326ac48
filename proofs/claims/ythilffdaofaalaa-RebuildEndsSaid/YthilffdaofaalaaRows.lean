/-
  No cell of these rows narrows 'for every input' (looked for: loops, veiled, ifaces, maps, wideKeys, modest, calm, conditions, laid).
  DERIVED. THE GIVEN ROWS OF THIS SEAT. 12 by the template 'for every input the law returns true; each argument reads behind the call as it read before'; 0 by the template 'total and deterministic' (their statements: YthilffdaofaalaaTotals.lean).
  GIVEN WITH THE SEED: the statements are not yours to turn. If you find one false, say at which input.
  Laid BY PROGRAM, IN A SANDBOX (cutbox-rows.mjs): the forced cells as the released guide's own fill.sh prints them over the translation dfd661fd73a51868… (all of the seat's roots in one cut). By AI agents, Wed Nov 11 2026. No macro, syntax, notation, axiom, sorry.
-/
import Derived.Test.YthilffdaofaalaaChecked
import GoSem.Claim
import GoSem.ClaimJoined
import GoSem.ClaimMapViews
import Derived.JoinedTies
import Derived.KernelRfl
namespace Go.Proofs.Ythilffdaofaalaa
/- THE CELL 'sum', in the pinned program and in every row, IS THE sha256 OF THE DUMP (.gsa) THAT YthilffdaofaalaaProg.lean LOADS. Nothing in Lean hashes anything: it is a label: what it is worth is what the hold of that sum in a sandbox is worth. -/
noncomputable def Try.pinned : Pinned := { name := "ythilffdaofaalaa", sum := "dfd661fd73a51868fe62aaaa7e923559b03953321e57bf66303e9612a27428d0", checked := Try.checked }
namespace Rows
def none {H : Type} : Left H := { results := [], args := [] }

/-- 'corbellaw12.TailSources': WHATEVER THE INPUT: true; the input reads as it did. -/
def tailSourcesSpec : ChangeSpec := { name := "tailSources", fn := fun _ => fun
  | [d1, d2, d3] => { results := [.lit (.bool true)], args := [d1, d2, d3] }
  | _ => none }
def tailSourcesRow : OpenClaim := { program := "ythilffdaofaalaa", sum := "dfd661fd73a51868fe62aaaa7e923559b03953321e57bf66303e9612a27428d0", func := "corbel/corbellaw12.TailSources", spec := "tailSources", unfollowed := true, recurses := true, plainKeys := false, apart := false }
def TailSourcesSaid : Prop := tailSourcesRow.holds Try.pinned (OpenSpec.ofChange tailSourcesSpec)

/-- ITS FALSE NEIGHBOUR: 'it returns false'. Refute it at one input. -/
def tailSourcesWrong : ChangeSpec := { name := "tailSources", fn := fun _ => fun
  | [d1, d2, d3] => { results := [.lit (.bool false)], args := [d1, d2, d3] }
  | _ => none }
def TailSourcesWrongFalsely : Prop := tailSourcesRow.holds Try.pinned (OpenSpec.ofChange tailSourcesWrong)

/-- 'corbellaw12.TailGrows': WHATEVER THE INPUT: true; the input reads as it did. -/
def tailGrowsSpec : ChangeSpec := { name := "tailGrows", fn := fun _ => fun
  | [d1, d2, d3] => { results := [.lit (.bool true)], args := [d1, d2, d3] }
  | _ => none }
def tailGrowsRow : OpenClaim := { program := "ythilffdaofaalaa", sum := "dfd661fd73a51868fe62aaaa7e923559b03953321e57bf66303e9612a27428d0", func := "corbel/corbellaw12.TailGrows", spec := "tailGrows", unfollowed := true, recurses := true, plainKeys := false, apart := false }
def TailGrowsSaid : Prop := tailGrowsRow.holds Try.pinned (OpenSpec.ofChange tailGrowsSpec)

/-- ITS FALSE NEIGHBOUR: 'it returns false'. Refute it at one input. -/
def tailGrowsWrong : ChangeSpec := { name := "tailGrows", fn := fun _ => fun
  | [d1, d2, d3] => { results := [.lit (.bool false)], args := [d1, d2, d3] }
  | _ => none }
def TailGrowsWrongFalsely : Prop := tailGrowsRow.holds Try.pinned (OpenSpec.ofChange tailGrowsWrong)

/-- 'corbellaw12.TailPlain': WHATEVER THE INPUT: true; the input reads as it did. -/
def tailPlainSpec : ChangeSpec := { name := "tailPlain", fn := fun _ => fun
  | [d1, d2, d3] => { results := [.lit (.bool true)], args := [d1, d2, d3] }
  | _ => none }
def tailPlainRow : OpenClaim := { program := "ythilffdaofaalaa", sum := "dfd661fd73a51868fe62aaaa7e923559b03953321e57bf66303e9612a27428d0", func := "corbel/corbellaw12.TailPlain", spec := "tailPlain", unfollowed := true, recurses := true, plainKeys := false, apart := false }
def TailPlainSaid : Prop := tailPlainRow.holds Try.pinned (OpenSpec.ofChange tailPlainSpec)

/-- ITS FALSE NEIGHBOUR: 'it returns false'. Refute it at one input. -/
def tailPlainWrong : ChangeSpec := { name := "tailPlain", fn := fun _ => fun
  | [d1, d2, d3] => { results := [.lit (.bool false)], args := [d1, d2, d3] }
  | _ => none }
def TailPlainWrongFalsely : Prop := tailPlainRow.holds Try.pinned (OpenSpec.ofChange tailPlainWrong)

/-- 'corbellaw12.TailKeeps': WHATEVER THE INPUT: true; the input reads as it did. -/
def tailKeepsSpec : ChangeSpec := { name := "tailKeeps", fn := fun _ => fun
  | [d1, d2, d3] => { results := [.lit (.bool true)], args := [d1, d2, d3] }
  | _ => none }
def tailKeepsRow : OpenClaim := { program := "ythilffdaofaalaa", sum := "dfd661fd73a51868fe62aaaa7e923559b03953321e57bf66303e9612a27428d0", func := "corbel/corbellaw12.TailKeeps", spec := "tailKeeps", inPlace := ["internal/abi.NoEscape", "internal/bytealg.MakeNoZero"], unfollowed := true, recurses := true, plainKeys := false, apart := false }
def TailKeepsSaid : Prop := tailKeepsRow.holds Try.pinned (OpenSpec.ofChange tailKeepsSpec)

/-- ITS FALSE NEIGHBOUR: 'it returns false'. Refute it at one input. -/
def tailKeepsWrong : ChangeSpec := { name := "tailKeeps", fn := fun _ => fun
  | [d1, d2, d3] => { results := [.lit (.bool false)], args := [d1, d2, d3] }
  | _ => none }
def TailKeepsWrongFalsely : Prop := tailKeepsRow.holds Try.pinned (OpenSpec.ofChange tailKeepsWrong)

/-- 'corbellaw16.RebuildHalf': WHATEVER THE INPUT: true; the input reads as it did. -/
def rebuildHalfSpec : ChangeSpec := { name := "rebuildHalf", fn := fun _ => fun
  | [d1, d2, d3] => { results := [.lit (.bool true)], args := [d1, d2, d3] }
  | _ => none }
def rebuildHalfRow : OpenClaim := { program := "ythilffdaofaalaa", sum := "dfd661fd73a51868fe62aaaa7e923559b03953321e57bf66303e9612a27428d0", func := "corbel/corbellaw16.RebuildHalf", spec := "rebuildHalf", unfollowed := true, recurses := true, plainKeys := false, apart := false }
def RebuildHalfSaid : Prop := rebuildHalfRow.holds Try.pinned (OpenSpec.ofChange rebuildHalfSpec)

/-- ITS FALSE NEIGHBOUR: 'it returns false'. Refute it at one input. -/
def rebuildHalfWrong : ChangeSpec := { name := "rebuildHalf", fn := fun _ => fun
  | [d1, d2, d3] => { results := [.lit (.bool false)], args := [d1, d2, d3] }
  | _ => none }
def RebuildHalfWrongFalsely : Prop := rebuildHalfRow.holds Try.pinned (OpenSpec.ofChange rebuildHalfWrong)

/-- 'corbellaw16.RebuildHas': WHATEVER THE INPUT: true; the input reads as it did. -/
def rebuildHasSpec : ChangeSpec := { name := "rebuildHas", fn := fun _ => fun
  | [d1, d2, d3] => { results := [.lit (.bool true)], args := [d1, d2, d3] }
  | _ => none }
def rebuildHasRow : OpenClaim := { program := "ythilffdaofaalaa", sum := "dfd661fd73a51868fe62aaaa7e923559b03953321e57bf66303e9612a27428d0", func := "corbel/corbellaw16.RebuildHas", spec := "rebuildHas", unfollowed := true, recurses := true, plainKeys := false, apart := false }
def RebuildHasSaid : Prop := rebuildHasRow.holds Try.pinned (OpenSpec.ofChange rebuildHasSpec)

/-- ITS FALSE NEIGHBOUR: 'it returns false'. Refute it at one input. -/
def rebuildHasWrong : ChangeSpec := { name := "rebuildHas", fn := fun _ => fun
  | [d1, d2, d3] => { results := [.lit (.bool false)], args := [d1, d2, d3] }
  | _ => none }
def RebuildHasWrongFalsely : Prop := rebuildHasRow.holds Try.pinned (OpenSpec.ofChange rebuildHasWrong)

/-- 'corbellaw16.RebuildEnds': WHATEVER THE INPUT: true; the input reads as it did. -/
def rebuildEndsSpec : ChangeSpec := { name := "rebuildEnds", fn := fun _ => fun
  | [d1, d2, d3] => { results := [.lit (.bool true)], args := [d1, d2, d3] }
  | _ => none }
def rebuildEndsRow : OpenClaim := { program := "ythilffdaofaalaa", sum := "dfd661fd73a51868fe62aaaa7e923559b03953321e57bf66303e9612a27428d0", func := "corbel/corbellaw16.RebuildEnds", spec := "rebuildEnds", unfollowed := true, recurses := true, plainKeys := false, apart := false }
def RebuildEndsSaid : Prop := rebuildEndsRow.holds Try.pinned (OpenSpec.ofChange rebuildEndsSpec)

/-- ITS FALSE NEIGHBOUR: 'it returns false'. Refute it at one input. -/
def rebuildEndsWrong : ChangeSpec := { name := "rebuildEnds", fn := fun _ => fun
  | [d1, d2, d3] => { results := [.lit (.bool false)], args := [d1, d2, d3] }
  | _ => none }
def RebuildEndsWrongFalsely : Prop := rebuildEndsRow.holds Try.pinned (OpenSpec.ofChange rebuildEndsWrong)

/-- 'corbellaw16.RebuildTasks': WHATEVER THE INPUT: true; the input reads as it did. -/
def rebuildTasksSpec : ChangeSpec := { name := "rebuildTasks", fn := fun _ => fun
  | [d1, d2, d3] => { results := [.lit (.bool true)], args := [d1, d2, d3] }
  | _ => none }
def rebuildTasksRow : OpenClaim := { program := "ythilffdaofaalaa", sum := "dfd661fd73a51868fe62aaaa7e923559b03953321e57bf66303e9612a27428d0", func := "corbel/corbellaw16.RebuildTasks", spec := "rebuildTasks", unfollowed := true, recurses := true, plainKeys := false, apart := false }
def RebuildTasksSaid : Prop := rebuildTasksRow.holds Try.pinned (OpenSpec.ofChange rebuildTasksSpec)

/-- ITS FALSE NEIGHBOUR: 'it returns false'. Refute it at one input. -/
def rebuildTasksWrong : ChangeSpec := { name := "rebuildTasks", fn := fun _ => fun
  | [d1, d2, d3] => { results := [.lit (.bool false)], args := [d1, d2, d3] }
  | _ => none }
def RebuildTasksWrongFalsely : Prop := rebuildTasksRow.holds Try.pinned (OpenSpec.ofChange rebuildTasksWrong)

/-- 'corbellaw10.BookNotes': WHATEVER THE INPUT: true; the input reads as it did. -/
def bookNotesSpec : ChangeSpec := { name := "bookNotes", fn := fun _ => fun
  | [d1, d2, d3] => { results := [.lit (.bool true)], args := [d1, d2, d3] }
  | _ => none }
def bookNotesRow : OpenClaim := { program := "ythilffdaofaalaa", sum := "dfd661fd73a51868fe62aaaa7e923559b03953321e57bf66303e9612a27428d0", func := "corbel/corbellaw10.BookNotes", spec := "bookNotes", unfollowed := true, recurses := true, plainKeys := false, apart := false }
def BookNotesSaid : Prop := bookNotesRow.holds Try.pinned (OpenSpec.ofChange bookNotesSpec)

/-- ITS FALSE NEIGHBOUR: 'it returns false'. Refute it at one input. -/
def bookNotesWrong : ChangeSpec := { name := "bookNotes", fn := fun _ => fun
  | [d1, d2, d3] => { results := [.lit (.bool false)], args := [d1, d2, d3] }
  | _ => none }
def BookNotesWrongFalsely : Prop := bookNotesRow.holds Try.pinned (OpenSpec.ofChange bookNotesWrong)

/-- 'corbellaw10.BookReads': WHATEVER THE INPUT: true; the input reads as it did. -/
def bookReadsSpec : ChangeSpec := { name := "bookReads", fn := fun _ => fun
  | [d1, d2] => { results := [.lit (.bool true)], args := [d1, d2] }
  | _ => none }
def bookReadsRow : OpenClaim := { program := "ythilffdaofaalaa", sum := "dfd661fd73a51868fe62aaaa7e923559b03953321e57bf66303e9612a27428d0", func := "corbel/corbellaw10.BookReads", spec := "bookReads", unfollowed := true, recurses := true, plainKeys := false, apart := false }
def BookReadsSaid : Prop := bookReadsRow.holds Try.pinned (OpenSpec.ofChange bookReadsSpec)

/-- ITS FALSE NEIGHBOUR: 'it returns false'. Refute it at one input. -/
def bookReadsWrong : ChangeSpec := { name := "bookReads", fn := fun _ => fun
  | [d1, d2] => { results := [.lit (.bool false)], args := [d1, d2] }
  | _ => none }
def BookReadsWrongFalsely : Prop := bookReadsRow.holds Try.pinned (OpenSpec.ofChange bookReadsWrong)

/-- 'corbellaw10.BookWrites': WHATEVER THE INPUT: true; the input reads as it did. -/
def bookWritesSpec : ChangeSpec := { name := "bookWrites", fn := fun _ => fun
  | [d1, d2, d3] => { results := [.lit (.bool true)], args := [d1, d2, d3] }
  | _ => none }
def bookWritesRow : OpenClaim := { program := "ythilffdaofaalaa", sum := "dfd661fd73a51868fe62aaaa7e923559b03953321e57bf66303e9612a27428d0", func := "corbel/corbellaw10.BookWrites", spec := "bookWrites", unfollowed := true, recurses := true, plainKeys := false, apart := false }
def BookWritesSaid : Prop := bookWritesRow.holds Try.pinned (OpenSpec.ofChange bookWritesSpec)

/-- ITS FALSE NEIGHBOUR: 'it returns false'. Refute it at one input. -/
def bookWritesWrong : ChangeSpec := { name := "bookWrites", fn := fun _ => fun
  | [d1, d2, d3] => { results := [.lit (.bool false)], args := [d1, d2, d3] }
  | _ => none }
def BookWritesWrongFalsely : Prop := bookWritesRow.holds Try.pinned (OpenSpec.ofChange bookWritesWrong)

/-- 'corbellaw10.BookFresh': WHATEVER THE INPUT: true; the input reads as it did. -/
def bookFreshSpec : ChangeSpec := { name := "bookFresh", fn := fun _ => fun
  | [d1, d2] => { results := [.lit (.bool true)], args := [d1, d2] }
  | _ => none }
def bookFreshRow : OpenClaim := { program := "ythilffdaofaalaa", sum := "dfd661fd73a51868fe62aaaa7e923559b03953321e57bf66303e9612a27428d0", func := "corbel/corbellaw10.BookFresh", spec := "bookFresh", unfollowed := true, recurses := true, plainKeys := false, apart := false }
def BookFreshSaid : Prop := bookFreshRow.holds Try.pinned (OpenSpec.ofChange bookFreshSpec)

/-- ITS FALSE NEIGHBOUR: 'it returns false'. Refute it at one input. -/
def bookFreshWrong : ChangeSpec := { name := "bookFresh", fn := fun _ => fun
  | [d1, d2] => { results := [.lit (.bool false)], args := [d1, d2] }
  | _ => none }
def BookFreshWrongFalsely : Prop := bookFreshRow.holds Try.pinned (OpenSpec.ofChange bookFreshWrong)

/- THE SECOND FORM. 'bulk': how many values and letters a reading holds, each counted each time it is reached (what is shared counts as often as it is met; a slice's spare places count too). A statement '..UptoSaid' is the law's where the arguments, and the package variables that the reading takes, are together of bulk at most 1048576: NARROWER than '..Said'. Prove '..Said' where nothing that the law and all that it calls make is longer than what came in: it says more and counts as full. Else prove '..UptoSaid'. A law counts once. -/
mutual
def uptoBulk {H : Type} : DataW H → Nat
  | .lit (.string bytes) => bytes.length + 1
  | .lit _ => 1
  | .nil => 1
  | .ptr d => uptoBulk d + 1
  | .slice elems spare => uptoBulkAll elems + uptoBulkAll spare + 1
  | .agg parts => uptoBulkAll parts + 1
  | .iface _ d => uptoBulk d + 1
  | .map entries => uptoBulkEntries entries + 1
  | .held _ => 1
def uptoBulkAll {H : Type} : List (DataW H) → Nat
  | [] => 0
  | d :: r => uptoBulk d + uptoBulkAll r
def uptoBulkEntries {H : Type} : List (Lit × DataW H) → Nat
  | [] => 0
  | x :: r => uptoBulkEntry x + uptoBulkEntries r
def uptoBulkEntry {H : Type} : Lit × DataW H → Nat
  | (.string bytes, d) => bytes.length + uptoBulk d + 1
  | (_, d) => uptoBulk d + 1
 end
def uptoSmall : (H : Type) → List (DataW H) → Bool := fun _ ds => decide (uptoBulkAll ds ≤ 1048576)
def OpenSpec.upto (s : _root_.Go.ChangeSpec) : _root_.Go.OpenSpec := { _root_.Go.OpenSpec.ofChange s with cond := some uptoSmall }

/-- 'corbellaw12.TailSources', WHERE WHAT IT READS IS OF BULK AT MOST 1048576: true; the input reads as it did. -/
def tailSourcesUptoRow : OpenClaim := { program := "ythilffdaofaalaa", sum := "dfd661fd73a51868fe62aaaa7e923559b03953321e57bf66303e9612a27428d0", func := "corbel/corbellaw12.TailSources", spec := "tailSources", unfollowed := true, recurses := true, plainKeys := false, apart := false, narrowed := true }
def TailSourcesUptoSaid : Prop := tailSourcesUptoRow.holds Try.pinned (OpenSpec.upto tailSourcesSpec)

/-- 'corbellaw12.TailGrows', WHERE WHAT IT READS IS OF BULK AT MOST 1048576: true; the input reads as it did. -/
def tailGrowsUptoRow : OpenClaim := { program := "ythilffdaofaalaa", sum := "dfd661fd73a51868fe62aaaa7e923559b03953321e57bf66303e9612a27428d0", func := "corbel/corbellaw12.TailGrows", spec := "tailGrows", unfollowed := true, recurses := true, plainKeys := false, apart := false, narrowed := true }
def TailGrowsUptoSaid : Prop := tailGrowsUptoRow.holds Try.pinned (OpenSpec.upto tailGrowsSpec)

/-- 'corbellaw12.TailPlain', WHERE WHAT IT READS IS OF BULK AT MOST 1048576: true; the input reads as it did. -/
def tailPlainUptoRow : OpenClaim := { program := "ythilffdaofaalaa", sum := "dfd661fd73a51868fe62aaaa7e923559b03953321e57bf66303e9612a27428d0", func := "corbel/corbellaw12.TailPlain", spec := "tailPlain", unfollowed := true, recurses := true, plainKeys := false, apart := false, narrowed := true }
def TailPlainUptoSaid : Prop := tailPlainUptoRow.holds Try.pinned (OpenSpec.upto tailPlainSpec)

/-- 'corbellaw12.TailKeeps', WHERE WHAT IT READS IS OF BULK AT MOST 1048576: true; the input reads as it did. -/
def tailKeepsUptoRow : OpenClaim := { program := "ythilffdaofaalaa", sum := "dfd661fd73a51868fe62aaaa7e923559b03953321e57bf66303e9612a27428d0", func := "corbel/corbellaw12.TailKeeps", spec := "tailKeeps", inPlace := ["internal/abi.NoEscape", "internal/bytealg.MakeNoZero"], unfollowed := true, recurses := true, plainKeys := false, apart := false, narrowed := true }
def TailKeepsUptoSaid : Prop := tailKeepsUptoRow.holds Try.pinned (OpenSpec.upto tailKeepsSpec)

/-- 'corbellaw16.RebuildHalf', WHERE WHAT IT READS IS OF BULK AT MOST 1048576: true; the input reads as it did. -/
def rebuildHalfUptoRow : OpenClaim := { program := "ythilffdaofaalaa", sum := "dfd661fd73a51868fe62aaaa7e923559b03953321e57bf66303e9612a27428d0", func := "corbel/corbellaw16.RebuildHalf", spec := "rebuildHalf", unfollowed := true, recurses := true, plainKeys := false, apart := false, narrowed := true }
def RebuildHalfUptoSaid : Prop := rebuildHalfUptoRow.holds Try.pinned (OpenSpec.upto rebuildHalfSpec)

/-- 'corbellaw16.RebuildHas', WHERE WHAT IT READS IS OF BULK AT MOST 1048576: true; the input reads as it did. -/
def rebuildHasUptoRow : OpenClaim := { program := "ythilffdaofaalaa", sum := "dfd661fd73a51868fe62aaaa7e923559b03953321e57bf66303e9612a27428d0", func := "corbel/corbellaw16.RebuildHas", spec := "rebuildHas", unfollowed := true, recurses := true, plainKeys := false, apart := false, narrowed := true }
def RebuildHasUptoSaid : Prop := rebuildHasUptoRow.holds Try.pinned (OpenSpec.upto rebuildHasSpec)

/-- 'corbellaw16.RebuildEnds', WHERE WHAT IT READS IS OF BULK AT MOST 1048576: true; the input reads as it did. -/
def rebuildEndsUptoRow : OpenClaim := { program := "ythilffdaofaalaa", sum := "dfd661fd73a51868fe62aaaa7e923559b03953321e57bf66303e9612a27428d0", func := "corbel/corbellaw16.RebuildEnds", spec := "rebuildEnds", unfollowed := true, recurses := true, plainKeys := false, apart := false, narrowed := true }
def RebuildEndsUptoSaid : Prop := rebuildEndsUptoRow.holds Try.pinned (OpenSpec.upto rebuildEndsSpec)

/-- 'corbellaw16.RebuildTasks', WHERE WHAT IT READS IS OF BULK AT MOST 1048576: true; the input reads as it did. -/
def rebuildTasksUptoRow : OpenClaim := { program := "ythilffdaofaalaa", sum := "dfd661fd73a51868fe62aaaa7e923559b03953321e57bf66303e9612a27428d0", func := "corbel/corbellaw16.RebuildTasks", spec := "rebuildTasks", unfollowed := true, recurses := true, plainKeys := false, apart := false, narrowed := true }
def RebuildTasksUptoSaid : Prop := rebuildTasksUptoRow.holds Try.pinned (OpenSpec.upto rebuildTasksSpec)

/-- 'corbellaw10.BookNotes', WHERE WHAT IT READS IS OF BULK AT MOST 1048576: true; the input reads as it did. -/
def bookNotesUptoRow : OpenClaim := { program := "ythilffdaofaalaa", sum := "dfd661fd73a51868fe62aaaa7e923559b03953321e57bf66303e9612a27428d0", func := "corbel/corbellaw10.BookNotes", spec := "bookNotes", unfollowed := true, recurses := true, plainKeys := false, apart := false, narrowed := true }
def BookNotesUptoSaid : Prop := bookNotesUptoRow.holds Try.pinned (OpenSpec.upto bookNotesSpec)

/-- 'corbellaw10.BookReads', WHERE WHAT IT READS IS OF BULK AT MOST 1048576: true; the input reads as it did. -/
def bookReadsUptoRow : OpenClaim := { program := "ythilffdaofaalaa", sum := "dfd661fd73a51868fe62aaaa7e923559b03953321e57bf66303e9612a27428d0", func := "corbel/corbellaw10.BookReads", spec := "bookReads", unfollowed := true, recurses := true, plainKeys := false, apart := false, narrowed := true }
def BookReadsUptoSaid : Prop := bookReadsUptoRow.holds Try.pinned (OpenSpec.upto bookReadsSpec)

/-- 'corbellaw10.BookWrites', WHERE WHAT IT READS IS OF BULK AT MOST 1048576: true; the input reads as it did. -/
def bookWritesUptoRow : OpenClaim := { program := "ythilffdaofaalaa", sum := "dfd661fd73a51868fe62aaaa7e923559b03953321e57bf66303e9612a27428d0", func := "corbel/corbellaw10.BookWrites", spec := "bookWrites", unfollowed := true, recurses := true, plainKeys := false, apart := false, narrowed := true }
def BookWritesUptoSaid : Prop := bookWritesUptoRow.holds Try.pinned (OpenSpec.upto bookWritesSpec)

/-- 'corbellaw10.BookFresh', WHERE WHAT IT READS IS OF BULK AT MOST 1048576: true; the input reads as it did. -/
def bookFreshUptoRow : OpenClaim := { program := "ythilffdaofaalaa", sum := "dfd661fd73a51868fe62aaaa7e923559b03953321e57bf66303e9612a27428d0", func := "corbel/corbellaw10.BookFresh", spec := "bookFresh", unfollowed := true, recurses := true, plainKeys := false, apart := false, narrowed := true }
def BookFreshUptoSaid : Prop := bookFreshUptoRow.holds Try.pinned (OpenSpec.upto bookFreshSpec)

end Rows
end Go.Proofs.Ythilffdaofaalaa
