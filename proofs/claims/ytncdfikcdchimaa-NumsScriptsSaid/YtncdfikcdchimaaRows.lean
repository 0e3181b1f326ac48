/-
  No cell of these rows narrows 'for every input' (looked for: loops, veiled, ifaces, maps, wideKeys, modest, calm, conditions, laid).
  DERIVED. THE GIVEN ROWS OF THIS SEAT. 7 by the template 'for every input the law returns true; each argument reads behind the call as it read before'; 0 by the template 'total and deterministic' (their statements: YtncdfikcdchimaaTotals.lean).
  GIVEN WITH THE SEED: the statements are not yours to turn. If you find one false, say at which input.
  Laid BY PROGRAM, IN A SANDBOX (cutbox-rows.mjs): the forced cells as the released guide's own fill.sh prints them over the translation 4d61fb4332ae1ca5… (all of the seat's roots in one cut). By AI agents, Wed Nov 11 2026. No macro, syntax, notation, axiom, sorry.
-/
import Derived.Test.YtncdfikcdchimaaChecked
import GoSem.Claim
import GoSem.ClaimJoined
import GoSem.ClaimMapViews
import Derived.JoinedTies
import Derived.KernelRfl
namespace Go.Proofs.Ytncdfikcdchimaa
/- THE CELL 'sum', in the pinned program and in every row, IS THE sha256 OF THE DUMP (.gsa) THAT YtncdfikcdchimaaProg.lean LOADS. Nothing in Lean hashes anything: it is a label: what it is worth is what the hold of that sum in a sandbox is worth. -/
noncomputable def Try.pinned : Pinned := { name := "ytncdfikcdchimaa", sum := "4d61fb4332ae1ca559323d2be582eaf8e5674764c2d328c931c6e1b38a282af7", checked := Try.checked }
namespace Rows
def none {H : Type} : Left H := { results := [], args := [] }

/-- 'corbellaw01.NumsPuts': WHATEVER THE INPUT: true; the input reads as it did. -/
def numsPutsSpec : ChangeSpec := { name := "numsPuts", fn := fun _ => fun
  | [d1, d2] => { results := [.lit (.bool true)], args := [d1, d2] }
  | _ => none }
def numsPutsRow : OpenClaim := { program := "ytncdfikcdchimaa", sum := "4d61fb4332ae1ca559323d2be582eaf8e5674764c2d328c931c6e1b38a282af7", func := "corbel/corbellaw01.NumsPuts", spec := "numsPuts", apart := false }
def NumsPutsSaid : Prop := numsPutsRow.holds Try.pinned (OpenSpec.ofChange numsPutsSpec)

/-- ITS FALSE NEIGHBOUR: 'it returns false'. Refute it at one input. -/
def numsPutsWrong : ChangeSpec := { name := "numsPuts", fn := fun _ => fun
  | [d1, d2] => { results := [.lit (.bool false)], args := [d1, d2] }
  | _ => none }
def NumsPutsWrongFalsely : Prop := numsPutsRow.holds Try.pinned (OpenSpec.ofChange numsPutsWrong)

/-- 'corbellaw01.NumsWalk': WHATEVER THE INPUT: true; the input reads as it did. -/
def numsWalkSpec : ChangeSpec := { name := "numsWalk", fn := fun _ => fun
  | [d] => { results := [.lit (.bool true)], args := [d] }
  | _ => none }
def numsWalkRow : OpenClaim := { program := "ytncdfikcdchimaa", sum := "4d61fb4332ae1ca559323d2be582eaf8e5674764c2d328c931c6e1b38a282af7", func := "corbel/corbellaw01.NumsWalk", spec := "numsWalk", apart := false }
def NumsWalkSaid : Prop := numsWalkRow.holds Try.pinned (OpenSpec.ofChange numsWalkSpec)

/-- ITS FALSE NEIGHBOUR: 'it returns false'. Refute it at one input. -/
def numsWalkWrong : ChangeSpec := { name := "numsWalk", fn := fun _ => fun
  | [d] => { results := [.lit (.bool false)], args := [d] }
  | _ => none }
def NumsWalkWrongFalsely : Prop := numsWalkRow.holds Try.pinned (OpenSpec.ofChange numsWalkWrong)

/-- 'corbellaw01.NumsGets': WHATEVER THE INPUT: true; the input reads as it did. -/
def numsGetsSpec : ChangeSpec := { name := "numsGets", fn := fun _ => fun
  | [d] => { results := [.lit (.bool true)], args := [d] }
  | _ => none }
def numsGetsRow : OpenClaim := { program := "ytncdfikcdchimaa", sum := "4d61fb4332ae1ca559323d2be582eaf8e5674764c2d328c931c6e1b38a282af7", func := "corbel/corbellaw01.NumsGets", spec := "numsGets", apart := false }
def NumsGetsSaid : Prop := numsGetsRow.holds Try.pinned (OpenSpec.ofChange numsGetsSpec)

/-- ITS FALSE NEIGHBOUR: 'it returns false'. Refute it at one input. -/
def numsGetsWrong : ChangeSpec := { name := "numsGets", fn := fun _ => fun
  | [d] => { results := [.lit (.bool false)], args := [d] }
  | _ => none }
def NumsGetsWrongFalsely : Prop := numsGetsRow.holds Try.pinned (OpenSpec.ofChange numsGetsWrong)

/-- 'corbellaw01.NumsBack': WHATEVER THE INPUT: true; the input reads as it did. -/
def numsBackSpec : ChangeSpec := { name := "numsBack", fn := fun _ => fun
  | [d1, d2, d3] => { results := [.lit (.bool true)], args := [d1, d2, d3] }
  | _ => none }
def numsBackRow : OpenClaim := { program := "ytncdfikcdchimaa", sum := "4d61fb4332ae1ca559323d2be582eaf8e5674764c2d328c931c6e1b38a282af7", func := "corbel/corbellaw01.NumsBack", spec := "numsBack", apart := false }
def NumsBackSaid : Prop := numsBackRow.holds Try.pinned (OpenSpec.ofChange numsBackSpec)

/-- ITS FALSE NEIGHBOUR: 'it returns false'. Refute it at one input. -/
def numsBackWrong : ChangeSpec := { name := "numsBack", fn := fun _ => fun
  | [d1, d2, d3] => { results := [.lit (.bool false)], args := [d1, d2, d3] }
  | _ => none }
def NumsBackWrongFalsely : Prop := numsBackRow.holds Try.pinned (OpenSpec.ofChange numsBackWrong)

/-- 'corbellaw01.NumsWidth': WHATEVER THE INPUT: true; the input reads as it did. -/
def numsWidthSpec : ChangeSpec := { name := "numsWidth", fn := fun _ => fun
  | [d1, d2] => { results := [.lit (.bool true)], args := [d1, d2] }
  | _ => none }
def numsWidthRow : OpenClaim := { program := "ytncdfikcdchimaa", sum := "4d61fb4332ae1ca559323d2be582eaf8e5674764c2d328c931c6e1b38a282af7", func := "corbel/corbellaw01.NumsWidth", spec := "numsWidth", apart := false }
def NumsWidthSaid : Prop := numsWidthRow.holds Try.pinned (OpenSpec.ofChange numsWidthSpec)

/-- ITS FALSE NEIGHBOUR: 'it returns false'. Refute it at one input. -/
def numsWidthWrong : ChangeSpec := { name := "numsWidth", fn := fun _ => fun
  | [d1, d2] => { results := [.lit (.bool false)], args := [d1, d2] }
  | _ => none }
def NumsWidthWrongFalsely : Prop := numsWidthRow.holds Try.pinned (OpenSpec.ofChange numsWidthWrong)

/-- 'corbellaw01.NumsScripts': WHATEVER THE INPUT: true; the input reads as it did. -/
def numsScriptsSpec : ChangeSpec := { name := "numsScripts", fn := fun _ => fun
  | [d1, d2] => { results := [.lit (.bool true)], args := [d1, d2] }
  | _ => none }
def numsScriptsRow : OpenClaim := { program := "ytncdfikcdchimaa", sum := "4d61fb4332ae1ca559323d2be582eaf8e5674764c2d328c931c6e1b38a282af7", func := "corbel/corbellaw01.NumsScripts", spec := "numsScripts", unfollowed := true, recurses := true, apart := false }
def NumsScriptsSaid : Prop := numsScriptsRow.holds Try.pinned (OpenSpec.ofChange numsScriptsSpec)

/-- ITS FALSE NEIGHBOUR: 'it returns false'. Refute it at one input. -/
def numsScriptsWrong : ChangeSpec := { name := "numsScripts", fn := fun _ => fun
  | [d1, d2] => { results := [.lit (.bool false)], args := [d1, d2] }
  | _ => none }
def NumsScriptsWrongFalsely : Prop := numsScriptsRow.holds Try.pinned (OpenSpec.ofChange numsScriptsWrong)

/-- 'corbellaw01.NumsAlike': WHATEVER THE INPUT: true; the input reads as it did. -/
def numsAlikeSpec : ChangeSpec := { name := "numsAlike", fn := fun _ => fun
  | [d] => { results := [.lit (.bool true)], args := [d] }
  | _ => none }
def numsAlikeRow : OpenClaim := { program := "ytncdfikcdchimaa", sum := "4d61fb4332ae1ca559323d2be582eaf8e5674764c2d328c931c6e1b38a282af7", func := "corbel/corbellaw01.NumsAlike", spec := "numsAlike", unfollowed := true, recurses := true, apart := false }
def NumsAlikeSaid : Prop := numsAlikeRow.holds Try.pinned (OpenSpec.ofChange numsAlikeSpec)

/-- ITS FALSE NEIGHBOUR: 'it returns false'. Refute it at one input. -/
def numsAlikeWrong : ChangeSpec := { name := "numsAlike", fn := fun _ => fun
  | [d] => { results := [.lit (.bool false)], args := [d] }
  | _ => none }
def NumsAlikeWrongFalsely : Prop := numsAlikeRow.holds Try.pinned (OpenSpec.ofChange numsAlikeWrong)

/- THE SECOND FORM. 'bulk': how many values and letters a reading holds, each counted each time it is reached (what is shared counts as often as it is met; a slice's spare places count too). A statement '..UptoSaid' is the law's where the arguments, and the package variables that the reading takes, are together of bulk at most 1048576: NARROWER than '..Said'. Prove '..Said' where nothing that the law and all that it calls make is longer than what came in: it says more and counts as full. Else prove '..UptoSaid'. A law counts once. -/
mutual
def uptoBulk {H : Type} : DataW H → Nat
  | .lit (.string bytes) => bytes.length + 1
  | .lit _ => 1
  | .nil => 1
  | .ptr d => uptoBulk d + 1
  | .slice elems spare => uptoBulkAll elems + uptoBulkAll spare + 1
  | .agg parts => uptoBulkAll parts + 1
  | .iface _ d => uptoBulk d + 1
  | .map entries => uptoBulkEntries entries + 1
  | .held _ => 1
def uptoBulkAll {H : Type} : List (DataW H) → Nat
  | [] => 0
  | d :: r => uptoBulk d + uptoBulkAll r
def uptoBulkEntries {H : Type} : List (Lit × DataW H) → Nat
  | [] => 0
  | x :: r => uptoBulkEntry x + uptoBulkEntries r
def uptoBulkEntry {H : Type} : Lit × DataW H → Nat
  | (.string bytes, d) => bytes.length + uptoBulk d + 1
  | (_, d) => uptoBulk d + 1
 end
def uptoSmall : (H : Type) → List (DataW H) → Bool := fun _ ds => decide (uptoBulkAll ds ≤ 1048576)
def OpenSpec.upto (s : _root_.Go.ChangeSpec) : _root_.Go.OpenSpec := { _root_.Go.OpenSpec.ofChange s with cond := some uptoSmall }

/-- 'corbellaw01.NumsPuts', WHERE WHAT IT READS IS OF BULK AT MOST 1048576: true; the input reads as it did. -/
def numsPutsUptoRow : OpenClaim := { program := "ytncdfikcdchimaa", sum := "4d61fb4332ae1ca559323d2be582eaf8e5674764c2d328c931c6e1b38a282af7", func := "corbel/corbellaw01.NumsPuts", spec := "numsPuts", apart := false, narrowed := true }
def NumsPutsUptoSaid : Prop := numsPutsUptoRow.holds Try.pinned (OpenSpec.upto numsPutsSpec)

/-- 'corbellaw01.NumsWalk', WHERE WHAT IT READS IS OF BULK AT MOST 1048576: true; the input reads as it did. -/
def numsWalkUptoRow : OpenClaim := { program := "ytncdfikcdchimaa", sum := "4d61fb4332ae1ca559323d2be582eaf8e5674764c2d328c931c6e1b38a282af7", func := "corbel/corbellaw01.NumsWalk", spec := "numsWalk", apart := false, narrowed := true }
def NumsWalkUptoSaid : Prop := numsWalkUptoRow.holds Try.pinned (OpenSpec.upto numsWalkSpec)

/-- 'corbellaw01.NumsGets', WHERE WHAT IT READS IS OF BULK AT MOST 1048576: true; the input reads as it did. -/
def numsGetsUptoRow : OpenClaim := { program := "ytncdfikcdchimaa", sum := "4d61fb4332ae1ca559323d2be582eaf8e5674764c2d328c931c6e1b38a282af7", func := "corbel/corbellaw01.NumsGets", spec := "numsGets", apart := false, narrowed := true }
def NumsGetsUptoSaid : Prop := numsGetsUptoRow.holds Try.pinned (OpenSpec.upto numsGetsSpec)

/-- 'corbellaw01.NumsBack', WHERE WHAT IT READS IS OF BULK AT MOST 1048576: true; the input reads as it did. -/
def numsBackUptoRow : OpenClaim := { program := "ytncdfikcdchimaa", sum := "4d61fb4332ae1ca559323d2be582eaf8e5674764c2d328c931c6e1b38a282af7", func := "corbel/corbellaw01.NumsBack", spec := "numsBack", apart := false, narrowed := true }
def NumsBackUptoSaid : Prop := numsBackUptoRow.holds Try.pinned (OpenSpec.upto numsBackSpec)

/-- 'corbellaw01.NumsWidth', WHERE WHAT IT READS IS OF BULK AT MOST 1048576: true; the input reads as it did. -/
def numsWidthUptoRow : OpenClaim := { program := "ytncdfikcdchimaa", sum := "4d61fb4332ae1ca559323d2be582eaf8e5674764c2d328c931c6e1b38a282af7", func := "corbel/corbellaw01.NumsWidth", spec := "numsWidth", apart := false, narrowed := true }
def NumsWidthUptoSaid : Prop := numsWidthUptoRow.holds Try.pinned (OpenSpec.upto numsWidthSpec)

/-- 'corbellaw01.NumsScripts', WHERE WHAT IT READS IS OF BULK AT MOST 1048576: true; the input reads as it did. -/
def numsScriptsUptoRow : OpenClaim := { program := "ytncdfikcdchimaa", sum := "4d61fb4332ae1ca559323d2be582eaf8e5674764c2d328c931c6e1b38a282af7", func := "corbel/corbellaw01.NumsScripts", spec := "numsScripts", unfollowed := true, recurses := true, apart := false, narrowed := true }
def NumsScriptsUptoSaid : Prop := numsScriptsUptoRow.holds Try.pinned (OpenSpec.upto numsScriptsSpec)

/-- 'corbellaw01.NumsAlike', WHERE WHAT IT READS IS OF BULK AT MOST 1048576: true; the input reads as it did. -/
def numsAlikeUptoRow : OpenClaim := { program := "ytncdfikcdchimaa", sum := "4d61fb4332ae1ca559323d2be582eaf8e5674764c2d328c931c6e1b38a282af7", func := "corbel/corbellaw01.NumsAlike", spec := "numsAlike", unfollowed := true, recurses := true, apart := false, narrowed := true }
def NumsAlikeUptoSaid : Prop := numsAlikeUptoRow.holds Try.pinned (OpenSpec.upto numsAlikeSpec)

end Rows
end Go.Proofs.Ytncdfikcdchimaa
