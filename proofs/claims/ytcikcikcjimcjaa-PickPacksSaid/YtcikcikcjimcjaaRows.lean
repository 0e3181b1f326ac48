/-
  No cell of these rows narrows 'for every input' (looked for: loops, veiled, ifaces, maps, wideKeys, modest, calm, conditions, laid).
  DERIVED. THE GIVEN ROWS OF THIS SEAT. 12 by the template 'for every input the law returns true; each argument reads behind the call as it read before'; 0 by the template 'total and deterministic' (their statements: YtcikcikcjimcjaaTotals.lean).
  GIVEN WITH THE SEED: the statements are not yours to turn. If you find one false, say at which input.
  Laid BY PROGRAM, IN A SANDBOX (cutbox-rows.mjs): the forced cells as the released guide's own fill.sh prints them over the translation 247093a1cebce963… (all of the seat's roots in one cut). By AI agents, Wed Nov 11 2026. No macro, syntax, notation, axiom, sorry.
-/
import Derived.Test.YtcikcikcjimcjaaChecked
import GoSem.Claim
import GoSem.ClaimJoined
import GoSem.ClaimMapViews
import Derived.JoinedTies
import Derived.KernelRfl
namespace Go.Proofs.Ytcikcikcjimcjaa
/- THE CELL 'sum', in the pinned program and in every row, IS THE sha256 OF THE DUMP (.gsa) THAT YtcikcikcjimcjaaProg.lean LOADS. Nothing in Lean hashes anything: it is a label: what it is worth is what the hold of that sum in a sandbox is worth. -/
noncomputable def Try.pinned : Pinned := { name := "ytcikcikcjimcjaa", sum := "247093a1cebce96343a0564fd8cda4b78ee0ccbb9ec5df23c019011e39bfe4c6", checked := Try.checked }
namespace Rows
def none {H : Type} : Left H := { results := [], args := [] }

/-- 'corbellaw13.PlanWrites': WHATEVER THE INPUT: true; the input reads as it did. -/
def planWritesSpec : ChangeSpec := { name := "planWrites", fn := fun _ => fun
  | [d1, d2, d3] => { results := [.lit (.bool true)], args := [d1, d2, d3] }
  | _ => none }
def planWritesRow : OpenClaim := { program := "ytcikcikcjimcjaa", sum := "247093a1cebce96343a0564fd8cda4b78ee0ccbb9ec5df23c019011e39bfe4c6", func := "corbel/corbellaw13.PlanWrites", spec := "planWrites", apart := false }
def PlanWritesSaid : Prop := planWritesRow.holds Try.pinned (OpenSpec.ofChange planWritesSpec)

/-- ITS FALSE NEIGHBOUR: 'it returns false'. Refute it at one input. -/
def planWritesWrong : ChangeSpec := { name := "planWrites", fn := fun _ => fun
  | [d1, d2, d3] => { results := [.lit (.bool false)], args := [d1, d2, d3] }
  | _ => none }
def PlanWritesWrongFalsely : Prop := planWritesRow.holds Try.pinned (OpenSpec.ofChange planWritesWrong)

/-- 'corbellaw13.PlanEnds': WHATEVER THE INPUT: true; the input reads as it did. -/
def planEndsSpec : ChangeSpec := { name := "planEnds", fn := fun _ => fun
  | [d1, d2, d3] => { results := [.lit (.bool true)], args := [d1, d2, d3] }
  | _ => none }
def planEndsRow : OpenClaim := { program := "ytcikcikcjimcjaa", sum := "247093a1cebce96343a0564fd8cda4b78ee0ccbb9ec5df23c019011e39bfe4c6", func := "corbel/corbellaw13.PlanEnds", spec := "planEnds", apart := false }
def PlanEndsSaid : Prop := planEndsRow.holds Try.pinned (OpenSpec.ofChange planEndsSpec)

/-- ITS FALSE NEIGHBOUR: 'it returns false'. Refute it at one input. -/
def planEndsWrong : ChangeSpec := { name := "planEnds", fn := fun _ => fun
  | [d1, d2, d3] => { results := [.lit (.bool false)], args := [d1, d2, d3] }
  | _ => none }
def PlanEndsWrongFalsely : Prop := planEndsRow.holds Try.pinned (OpenSpec.ofChange planEndsWrong)

/-- 'corbellaw13.PlanParts': WHATEVER THE INPUT: true; the input reads as it did. -/
def planPartsSpec : ChangeSpec := { name := "planParts", fn := fun _ => fun
  | [d1, d2, d3] => { results := [.lit (.bool true)], args := [d1, d2, d3] }
  | _ => none }
def planPartsRow : OpenClaim := { program := "ytcikcikcjimcjaa", sum := "247093a1cebce96343a0564fd8cda4b78ee0ccbb9ec5df23c019011e39bfe4c6", func := "corbel/corbellaw13.PlanParts", spec := "planParts", apart := false }
def PlanPartsSaid : Prop := planPartsRow.holds Try.pinned (OpenSpec.ofChange planPartsSpec)

/-- ITS FALSE NEIGHBOUR: 'it returns false'. Refute it at one input. -/
def planPartsWrong : ChangeSpec := { name := "planParts", fn := fun _ => fun
  | [d1, d2, d3] => { results := [.lit (.bool false)], args := [d1, d2, d3] }
  | _ => none }
def PlanPartsWrongFalsely : Prop := planPartsRow.holds Try.pinned (OpenSpec.ofChange planPartsWrong)

/-- 'corbellaw13.PlanLengths': WHATEVER THE INPUT: true; the input reads as it did. -/
def planLengthsSpec : ChangeSpec := { name := "planLengths", fn := fun _ => fun
  | [d1, d2, d3] => { results := [.lit (.bool true)], args := [d1, d2, d3] }
  | _ => none }
def planLengthsRow : OpenClaim := { program := "ytcikcikcjimcjaa", sum := "247093a1cebce96343a0564fd8cda4b78ee0ccbb9ec5df23c019011e39bfe4c6", func := "corbel/corbellaw13.PlanLengths", spec := "planLengths", apart := false }
def PlanLengthsSaid : Prop := planLengthsRow.holds Try.pinned (OpenSpec.ofChange planLengthsSpec)

/-- ITS FALSE NEIGHBOUR: 'it returns false'. Refute it at one input. -/
def planLengthsWrong : ChangeSpec := { name := "planLengths", fn := fun _ => fun
  | [d1, d2, d3] => { results := [.lit (.bool false)], args := [d1, d2, d3] }
  | _ => none }
def PlanLengthsWrongFalsely : Prop := planLengthsRow.holds Try.pinned (OpenSpec.ofChange planLengthsWrong)

/-- 'corbellaw13.PlanSums': WHATEVER THE INPUT: true; the input reads as it did. -/
def planSumsSpec : ChangeSpec := { name := "planSums", fn := fun _ => fun
  | [d1, d2, d3] => { results := [.lit (.bool true)], args := [d1, d2, d3] }
  | _ => none }
def planSumsRow : OpenClaim := { program := "ytcikcikcjimcjaa", sum := "247093a1cebce96343a0564fd8cda4b78ee0ccbb9ec5df23c019011e39bfe4c6", func := "corbel/corbellaw13.PlanSums", spec := "planSums", apart := false }
def PlanSumsSaid : Prop := planSumsRow.holds Try.pinned (OpenSpec.ofChange planSumsSpec)

/-- ITS FALSE NEIGHBOUR: 'it returns false'. Refute it at one input. -/
def planSumsWrong : ChangeSpec := { name := "planSums", fn := fun _ => fun
  | [d1, d2, d3] => { results := [.lit (.bool false)], args := [d1, d2, d3] }
  | _ => none }
def PlanSumsWrongFalsely : Prop := planSumsRow.holds Try.pinned (OpenSpec.ofChange planSumsWrong)

/-- 'corbellaw15.MendDecides': WHATEVER THE INPUT: true; the input reads as it did. -/
def mendDecidesSpec : ChangeSpec := { name := "mendDecides", fn := fun _ => fun
  | [d1, d2, d3] => { results := [.lit (.bool true)], args := [d1, d2, d3] }
  | _ => none }
def mendDecidesRow : OpenClaim := { program := "ytcikcikcjimcjaa", sum := "247093a1cebce96343a0564fd8cda4b78ee0ccbb9ec5df23c019011e39bfe4c6", func := "corbel/corbellaw15.MendDecides", spec := "mendDecides", unfollowed := true, recurses := true, apart := false }
def MendDecidesSaid : Prop := mendDecidesRow.holds Try.pinned (OpenSpec.ofChange mendDecidesSpec)

/-- ITS FALSE NEIGHBOUR: 'it returns false'. Refute it at one input. -/
def mendDecidesWrong : ChangeSpec := { name := "mendDecides", fn := fun _ => fun
  | [d1, d2, d3] => { results := [.lit (.bool false)], args := [d1, d2, d3] }
  | _ => none }
def MendDecidesWrongFalsely : Prop := mendDecidesRow.holds Try.pinned (OpenSpec.ofChange mendDecidesWrong)

/-- 'corbellaw15.MendMissing': WHATEVER THE INPUT: true; the input reads as it did. -/
def mendMissingSpec : ChangeSpec := { name := "mendMissing", fn := fun _ => fun
  | [d1, d2, d3] => { results := [.lit (.bool true)], args := [d1, d2, d3] }
  | _ => none }
def mendMissingRow : OpenClaim := { program := "ytcikcikcjimcjaa", sum := "247093a1cebce96343a0564fd8cda4b78ee0ccbb9ec5df23c019011e39bfe4c6", func := "corbel/corbellaw15.MendMissing", spec := "mendMissing", unfollowed := true, recurses := true, apart := false }
def MendMissingSaid : Prop := mendMissingRow.holds Try.pinned (OpenSpec.ofChange mendMissingSpec)

/-- ITS FALSE NEIGHBOUR: 'it returns false'. Refute it at one input. -/
def mendMissingWrong : ChangeSpec := { name := "mendMissing", fn := fun _ => fun
  | [d1, d2, d3] => { results := [.lit (.bool false)], args := [d1, d2, d3] }
  | _ => none }
def MendMissingWrongFalsely : Prop := mendMissingRow.holds Try.pinned (OpenSpec.ofChange mendMissingWrong)

/-- 'corbellaw15.MendEnds': WHATEVER THE INPUT: true; the input reads as it did. -/
def mendEndsSpec : ChangeSpec := { name := "mendEnds", fn := fun _ => fun
  | [d1, d2, d3] => { results := [.lit (.bool true)], args := [d1, d2, d3] }
  | _ => none }
def mendEndsRow : OpenClaim := { program := "ytcikcikcjimcjaa", sum := "247093a1cebce96343a0564fd8cda4b78ee0ccbb9ec5df23c019011e39bfe4c6", func := "corbel/corbellaw15.MendEnds", spec := "mendEnds", unfollowed := true, recurses := true, apart := false }
def MendEndsSaid : Prop := mendEndsRow.holds Try.pinned (OpenSpec.ofChange mendEndsSpec)

/-- ITS FALSE NEIGHBOUR: 'it returns false'. Refute it at one input. -/
def mendEndsWrong : ChangeSpec := { name := "mendEnds", fn := fun _ => fun
  | [d1, d2, d3] => { results := [.lit (.bool false)], args := [d1, d2, d3] }
  | _ => none }
def MendEndsWrongFalsely : Prop := mendEndsRow.holds Try.pinned (OpenSpec.ofChange mendEndsWrong)

/-- 'corbellaw20.PickLeast': WHATEVER THE INPUT: true; the input reads as it did. -/
def pickLeastSpec : ChangeSpec := { name := "pickLeast", fn := fun _ => fun
  | [d] => { results := [.lit (.bool true)], args := [d] }
  | _ => none }
def pickLeastRow : OpenClaim := { program := "ytcikcikcjimcjaa", sum := "247093a1cebce96343a0564fd8cda4b78ee0ccbb9ec5df23c019011e39bfe4c6", func := "corbel/corbellaw20.PickLeast", spec := "pickLeast", unfollowed := true, recurses := true, apart := false }
def PickLeastSaid : Prop := pickLeastRow.holds Try.pinned (OpenSpec.ofChange pickLeastSpec)

/-- ITS FALSE NEIGHBOUR: 'it returns false'. Refute it at one input. -/
def pickLeastWrong : ChangeSpec := { name := "pickLeast", fn := fun _ => fun
  | [d] => { results := [.lit (.bool false)], args := [d] }
  | _ => none }
def PickLeastWrongFalsely : Prop := pickLeastRow.holds Try.pinned (OpenSpec.ofChange pickLeastWrong)

/-- 'corbellaw20.PickPacks': WHATEVER THE INPUT: true; the input reads as it did. -/
def pickPacksSpec : ChangeSpec := { name := "pickPacks", fn := fun _ => fun
  | [d1, d2] => { results := [.lit (.bool true)], args := [d1, d2] }
  | _ => none }
def pickPacksRow : OpenClaim := { program := "ytcikcikcjimcjaa", sum := "247093a1cebce96343a0564fd8cda4b78ee0ccbb9ec5df23c019011e39bfe4c6", func := "corbel/corbellaw20.PickPacks", spec := "pickPacks", unfollowed := true, recurses := true, apart := false }
def PickPacksSaid : Prop := pickPacksRow.holds Try.pinned (OpenSpec.ofChange pickPacksSpec)

/-- ITS FALSE NEIGHBOUR: 'it returns false'. Refute it at one input. -/
def pickPacksWrong : ChangeSpec := { name := "pickPacks", fn := fun _ => fun
  | [d1, d2] => { results := [.lit (.bool false)], args := [d1, d2] }
  | _ => none }
def PickPacksWrongFalsely : Prop := pickPacksRow.holds Try.pinned (OpenSpec.ofChange pickPacksWrong)

/-- 'corbellaw20.PickVictims': WHATEVER THE INPUT: true; the input reads as it did. -/
def pickVictimsSpec : ChangeSpec := { name := "pickVictims", fn := fun _ => fun
  | [d] => { results := [.lit (.bool true)], args := [d] }
  | _ => none }
def pickVictimsRow : OpenClaim := { program := "ytcikcikcjimcjaa", sum := "247093a1cebce96343a0564fd8cda4b78ee0ccbb9ec5df23c019011e39bfe4c6", func := "corbel/corbellaw20.PickVictims", spec := "pickVictims", unfollowed := true, recurses := true, apart := false }
def PickVictimsSaid : Prop := pickVictimsRow.holds Try.pinned (OpenSpec.ofChange pickVictimsSpec)

/-- ITS FALSE NEIGHBOUR: 'it returns false'. Refute it at one input. -/
def pickVictimsWrong : ChangeSpec := { name := "pickVictims", fn := fun _ => fun
  | [d] => { results := [.lit (.bool false)], args := [d] }
  | _ => none }
def PickVictimsWrongFalsely : Prop := pickVictimsRow.holds Try.pinned (OpenSpec.ofChange pickVictimsWrong)

/-- 'corbellaw20.PickTurned': WHATEVER THE INPUT: true; the input reads as it did. -/
def pickTurnedSpec : ChangeSpec := { name := "pickTurned", fn := fun _ => fun
  | [d1, d2] => { results := [.lit (.bool true)], args := [d1, d2] }
  | _ => none }
def pickTurnedRow : OpenClaim := { program := "ytcikcikcjimcjaa", sum := "247093a1cebce96343a0564fd8cda4b78ee0ccbb9ec5df23c019011e39bfe4c6", func := "corbel/corbellaw20.PickTurned", spec := "pickTurned", unfollowed := true, recurses := true, apart := false }
def PickTurnedSaid : Prop := pickTurnedRow.holds Try.pinned (OpenSpec.ofChange pickTurnedSpec)

/-- ITS FALSE NEIGHBOUR: 'it returns false'. Refute it at one input. -/
def pickTurnedWrong : ChangeSpec := { name := "pickTurned", fn := fun _ => fun
  | [d1, d2] => { results := [.lit (.bool false)], args := [d1, d2] }
  | _ => none }
def PickTurnedWrongFalsely : Prop := pickTurnedRow.holds Try.pinned (OpenSpec.ofChange pickTurnedWrong)

/- THE SECOND FORM. 'bulk': how many values and letters a reading holds, each counted each time it is reached (what is shared counts as often as it is met; a slice's spare places count too). A statement '..UptoSaid' is the law's where the arguments, and the package variables that the reading takes, are together of bulk at most 1048576: NARROWER than '..Said'. Prove '..Said' where nothing that the law and all that it calls make is longer than what came in: it says more and counts as full. Else prove '..UptoSaid'. A law counts once. -/
mutual
def uptoBulk {H : Type} : DataW H → Nat
  | .lit (.string bytes) => bytes.length + 1
  | .lit _ => 1
  | .nil => 1
  | .ptr d => uptoBulk d + 1
  | .slice elems spare => uptoBulkAll elems + uptoBulkAll spare + 1
  | .agg parts => uptoBulkAll parts + 1
  | .iface _ d => uptoBulk d + 1
  | .map entries => uptoBulkEntries entries + 1
  | .held _ => 1
def uptoBulkAll {H : Type} : List (DataW H) → Nat
  | [] => 0
  | d :: r => uptoBulk d + uptoBulkAll r
def uptoBulkEntries {H : Type} : List (Lit × DataW H) → Nat
  | [] => 0
  | x :: r => uptoBulkEntry x + uptoBulkEntries r
def uptoBulkEntry {H : Type} : Lit × DataW H → Nat
  | (.string bytes, d) => bytes.length + uptoBulk d + 1
  | (_, d) => uptoBulk d + 1
 end
def uptoSmall : (H : Type) → List (DataW H) → Bool := fun _ ds => decide (uptoBulkAll ds ≤ 1048576)
def OpenSpec.upto (s : _root_.Go.ChangeSpec) : _root_.Go.OpenSpec := { _root_.Go.OpenSpec.ofChange s with cond := some uptoSmall }

/-- 'corbellaw13.PlanWrites', WHERE WHAT IT READS IS OF BULK AT MOST 1048576: true; the input reads as it did. -/
def planWritesUptoRow : OpenClaim := { program := "ytcikcikcjimcjaa", sum := "247093a1cebce96343a0564fd8cda4b78ee0ccbb9ec5df23c019011e39bfe4c6", func := "corbel/corbellaw13.PlanWrites", spec := "planWrites", apart := false, narrowed := true }
def PlanWritesUptoSaid : Prop := planWritesUptoRow.holds Try.pinned (OpenSpec.upto planWritesSpec)

/-- 'corbellaw13.PlanEnds', WHERE WHAT IT READS IS OF BULK AT MOST 1048576: true; the input reads as it did. -/
def planEndsUptoRow : OpenClaim := { program := "ytcikcikcjimcjaa", sum := "247093a1cebce96343a0564fd8cda4b78ee0ccbb9ec5df23c019011e39bfe4c6", func := "corbel/corbellaw13.PlanEnds", spec := "planEnds", apart := false, narrowed := true }
def PlanEndsUptoSaid : Prop := planEndsUptoRow.holds Try.pinned (OpenSpec.upto planEndsSpec)

/-- 'corbellaw13.PlanParts', WHERE WHAT IT READS IS OF BULK AT MOST 1048576: true; the input reads as it did. -/
def planPartsUptoRow : OpenClaim := { program := "ytcikcikcjimcjaa", sum := "247093a1cebce96343a0564fd8cda4b78ee0ccbb9ec5df23c019011e39bfe4c6", func := "corbel/corbellaw13.PlanParts", spec := "planParts", apart := false, narrowed := true }
def PlanPartsUptoSaid : Prop := planPartsUptoRow.holds Try.pinned (OpenSpec.upto planPartsSpec)

/-- 'corbellaw13.PlanLengths', WHERE WHAT IT READS IS OF BULK AT MOST 1048576: true; the input reads as it did. -/
def planLengthsUptoRow : OpenClaim := { program := "ytcikcikcjimcjaa", sum := "247093a1cebce96343a0564fd8cda4b78ee0ccbb9ec5df23c019011e39bfe4c6", func := "corbel/corbellaw13.PlanLengths", spec := "planLengths", apart := false, narrowed := true }
def PlanLengthsUptoSaid : Prop := planLengthsUptoRow.holds Try.pinned (OpenSpec.upto planLengthsSpec)

/-- 'corbellaw13.PlanSums', WHERE WHAT IT READS IS OF BULK AT MOST 1048576: true; the input reads as it did. -/
def planSumsUptoRow : OpenClaim := { program := "ytcikcikcjimcjaa", sum := "247093a1cebce96343a0564fd8cda4b78ee0ccbb9ec5df23c019011e39bfe4c6", func := "corbel/corbellaw13.PlanSums", spec := "planSums", apart := false, narrowed := true }
def PlanSumsUptoSaid : Prop := planSumsUptoRow.holds Try.pinned (OpenSpec.upto planSumsSpec)

/-- 'corbellaw15.MendDecides', WHERE WHAT IT READS IS OF BULK AT MOST 1048576: true; the input reads as it did. -/
def mendDecidesUptoRow : OpenClaim := { program := "ytcikcikcjimcjaa", sum := "247093a1cebce96343a0564fd8cda4b78ee0ccbb9ec5df23c019011e39bfe4c6", func := "corbel/corbellaw15.MendDecides", spec := "mendDecides", unfollowed := true, recurses := true, apart := false, narrowed := true }
def MendDecidesUptoSaid : Prop := mendDecidesUptoRow.holds Try.pinned (OpenSpec.upto mendDecidesSpec)

/-- 'corbellaw15.MendMissing', WHERE WHAT IT READS IS OF BULK AT MOST 1048576: true; the input reads as it did. -/
def mendMissingUptoRow : OpenClaim := { program := "ytcikcikcjimcjaa", sum := "247093a1cebce96343a0564fd8cda4b78ee0ccbb9ec5df23c019011e39bfe4c6", func := "corbel/corbellaw15.MendMissing", spec := "mendMissing", unfollowed := true, recurses := true, apart := false, narrowed := true }
def MendMissingUptoSaid : Prop := mendMissingUptoRow.holds Try.pinned (OpenSpec.upto mendMissingSpec)

/-- 'corbellaw15.MendEnds', WHERE WHAT IT READS IS OF BULK AT MOST 1048576: true; the input reads as it did. -/
def mendEndsUptoRow : OpenClaim := { program := "ytcikcikcjimcjaa", sum := "247093a1cebce96343a0564fd8cda4b78ee0ccbb9ec5df23c019011e39bfe4c6", func := "corbel/corbellaw15.MendEnds", spec := "mendEnds", unfollowed := true, recurses := true, apart := false, narrowed := true }
def MendEndsUptoSaid : Prop := mendEndsUptoRow.holds Try.pinned (OpenSpec.upto mendEndsSpec)

/-- 'corbellaw20.PickLeast', WHERE WHAT IT READS IS OF BULK AT MOST 1048576: true; the input reads as it did. -/
def pickLeastUptoRow : OpenClaim := { program := "ytcikcikcjimcjaa", sum := "247093a1cebce96343a0564fd8cda4b78ee0ccbb9ec5df23c019011e39bfe4c6", func := "corbel/corbellaw20.PickLeast", spec := "pickLeast", unfollowed := true, recurses := true, apart := false, narrowed := true }
def PickLeastUptoSaid : Prop := pickLeastUptoRow.holds Try.pinned (OpenSpec.upto pickLeastSpec)

/-- 'corbellaw20.PickPacks', WHERE WHAT IT READS IS OF BULK AT MOST 1048576: true; the input reads as it did. -/
def pickPacksUptoRow : OpenClaim := { program := "ytcikcikcjimcjaa", sum := "247093a1cebce96343a0564fd8cda4b78ee0ccbb9ec5df23c019011e39bfe4c6", func := "corbel/corbellaw20.PickPacks", spec := "pickPacks", unfollowed := true, recurses := true, apart := false, narrowed := true }
def PickPacksUptoSaid : Prop := pickPacksUptoRow.holds Try.pinned (OpenSpec.upto pickPacksSpec)

/-- 'corbellaw20.PickVictims', WHERE WHAT IT READS IS OF BULK AT MOST 1048576: true; the input reads as it did. -/
def pickVictimsUptoRow : OpenClaim := { program := "ytcikcikcjimcjaa", sum := "247093a1cebce96343a0564fd8cda4b78ee0ccbb9ec5df23c019011e39bfe4c6", func := "corbel/corbellaw20.PickVictims", spec := "pickVictims", unfollowed := true, recurses := true, apart := false, narrowed := true }
def PickVictimsUptoSaid : Prop := pickVictimsUptoRow.holds Try.pinned (OpenSpec.upto pickVictimsSpec)

/-- 'corbellaw20.PickTurned', WHERE WHAT IT READS IS OF BULK AT MOST 1048576: true; the input reads as it did. -/
def pickTurnedUptoRow : OpenClaim := { program := "ytcikcikcjimcjaa", sum := "247093a1cebce96343a0564fd8cda4b78ee0ccbb9ec5df23c019011e39bfe4c6", func := "corbel/corbellaw20.PickTurned", spec := "pickTurned", unfollowed := true, recurses := true, apart := false, narrowed := true }
def PickTurnedUptoSaid : Prop := pickTurnedUptoRow.holds Try.pinned (OpenSpec.upto pickTurnedSpec)

end Rows
end Go.Proofs.Ytcikcikcjimcjaa
