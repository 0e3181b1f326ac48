/-
  No cell of these rows narrows 'for every input' (looked for: loops, veiled, ifaces, maps, wideKeys, modest, calm, conditions, laid).
  DERIVED. THE GIVEN ROWS OF THIS SEAT. 4 by the template 'for every input the law returns true; each argument reads behind the call as it read before'; 0 by the template 'total and deterministic' (their statements: YtiolpmgphkakeaaTotals.lean).
  GIVEN WITH THE SEED: the statements are not yours to turn. If you find one false, say at which input.
  Laid BY PROGRAM, IN A SANDBOX (cutbox-rows.mjs): the forced cells as the released guide's own fill.sh prints them over the translation 850f7c46a4724f62… (all of the seat's roots in one cut). By AI agents, Wed Nov 11 2026. No macro, syntax, notation, axiom, sorry.
-/
import Derived.Test.YtiolpmgphkakeaaChecked
import GoSem.Claim
import GoSem.ClaimJoined
import GoSem.ClaimMapViews
import Derived.JoinedTies
import Derived.KernelRfl
namespace Go.Proofs.Ytiolpmgphkakeaa
/- THE CELL 'sum', in the pinned program and in every row, IS THE sha256 OF THE DUMP (.gsa) THAT YtiolpmgphkakeaaProg.lean LOADS. Nothing in Lean hashes anything: it is a label: what it is worth is what the hold of that sum in a sandbox is worth. -/
noncomputable def Try.pinned : Pinned := { name := "ytiolpmgphkakeaa", sum := "850f7c46a4724f62929131c7e9c188eeb13b20534c1670f18393edd5931fbeb5", checked := Try.checked }
namespace Rows
def none {H : Type} : Left H := { results := [], args := [] }

/-- 'corbellaw23.JudgeFair': WHATEVER THE INPUT: true; the input reads as it did. -/
def judgeFairSpec : ChangeSpec := { name := "judgeFair", fn := fun _ => fun
  | [d1, d2, d3] => { results := [.lit (.bool true)], args := [d1, d2, d3] }
  | _ => none }
def judgeFairRow : OpenClaim := { program := "ytiolpmgphkakeaa", sum := "850f7c46a4724f62929131c7e9c188eeb13b20534c1670f18393edd5931fbeb5", func := "corbel/corbellaw23.JudgeFair", spec := "judgeFair", inPlace := ["internal/abi.NoEscape", "internal/bytealg.MakeNoZero"], unfollowed := true, recurses := true, apart := false }
def JudgeFairSaid : Prop := judgeFairRow.holds Try.pinned (OpenSpec.ofChange judgeFairSpec)

/-- ITS FALSE NEIGHBOUR: 'it returns false'. Refute it at one input. -/
def judgeFairWrong : ChangeSpec := { name := "judgeFair", fn := fun _ => fun
  | [d1, d2, d3] => { results := [.lit (.bool false)], args := [d1, d2, d3] }
  | _ => none }
def JudgeFairWrongFalsely : Prop := judgeFairRow.holds Try.pinned (OpenSpec.ofChange judgeFairWrong)

/-- 'corbellaw23.JudgeKnows': WHATEVER THE INPUT: true; the input reads as it did. -/
def judgeKnowsSpec : ChangeSpec := { name := "judgeKnows", fn := fun _ => fun
  | [d1, d2, d3] => { results := [.lit (.bool true)], args := [d1, d2, d3] }
  | _ => none }
def judgeKnowsRow : OpenClaim := { program := "ytiolpmgphkakeaa", sum := "850f7c46a4724f62929131c7e9c188eeb13b20534c1670f18393edd5931fbeb5", func := "corbel/corbellaw23.JudgeKnows", spec := "judgeKnows", inPlace := ["internal/abi.NoEscape", "internal/bytealg.MakeNoZero"], unfollowed := true, recurses := true, apart := false }
def JudgeKnowsSaid : Prop := judgeKnowsRow.holds Try.pinned (OpenSpec.ofChange judgeKnowsSpec)

/-- ITS FALSE NEIGHBOUR: 'it returns false'. Refute it at one input. -/
def judgeKnowsWrong : ChangeSpec := { name := "judgeKnows", fn := fun _ => fun
  | [d1, d2, d3] => { results := [.lit (.bool false)], args := [d1, d2, d3] }
  | _ => none }
def JudgeKnowsWrongFalsely : Prop := judgeKnowsRow.holds Try.pinned (OpenSpec.ofChange judgeKnowsWrong)

/-- 'corbellaw23.JudgeScripts': WHATEVER THE INPUT: true; the input reads as it did. -/
def judgeScriptsSpec : ChangeSpec := { name := "judgeScripts", fn := fun _ => fun
  | [d1, d2] => { results := [.lit (.bool true)], args := [d1, d2] }
  | _ => none }
def judgeScriptsRow : OpenClaim := { program := "ytiolpmgphkakeaa", sum := "850f7c46a4724f62929131c7e9c188eeb13b20534c1670f18393edd5931fbeb5", func := "corbel/corbellaw23.JudgeScripts", spec := "judgeScripts", inPlace := ["internal/abi.NoEscape", "internal/bytealg.MakeNoZero"], unfollowed := true, recurses := true, apart := false }
def JudgeScriptsSaid : Prop := judgeScriptsRow.holds Try.pinned (OpenSpec.ofChange judgeScriptsSpec)

/-- ITS FALSE NEIGHBOUR: 'it returns false'. Refute it at one input. -/
def judgeScriptsWrong : ChangeSpec := { name := "judgeScripts", fn := fun _ => fun
  | [d1, d2] => { results := [.lit (.bool false)], args := [d1, d2] }
  | _ => none }
def JudgeScriptsWrongFalsely : Prop := judgeScriptsRow.holds Try.pinned (OpenSpec.ofChange judgeScriptsWrong)

/-- 'corbellaw12.TailKeeps': WHATEVER THE INPUT: true; the input reads as it did. -/
def tailKeepsSpec : ChangeSpec := { name := "tailKeeps", fn := fun _ => fun
  | [d1, d2, d3] => { results := [.lit (.bool true)], args := [d1, d2, d3] }
  | _ => none }
def tailKeepsRow : OpenClaim := { program := "ytiolpmgphkakeaa", sum := "850f7c46a4724f62929131c7e9c188eeb13b20534c1670f18393edd5931fbeb5", func := "corbel/corbellaw12.TailKeeps", spec := "tailKeeps", inPlace := ["internal/abi.NoEscape", "internal/bytealg.MakeNoZero"], unfollowed := true, recurses := true, apart := false }
def TailKeepsSaid : Prop := tailKeepsRow.holds Try.pinned (OpenSpec.ofChange tailKeepsSpec)

/-- ITS FALSE NEIGHBOUR: 'it returns false'. Refute it at one input. -/
def tailKeepsWrong : ChangeSpec := { name := "tailKeeps", fn := fun _ => fun
  | [d1, d2, d3] => { results := [.lit (.bool false)], args := [d1, d2, d3] }
  | _ => none }
def TailKeepsWrongFalsely : Prop := tailKeepsRow.holds Try.pinned (OpenSpec.ofChange tailKeepsWrong)

/- THE SECOND FORM. 'bulk': how many values and letters a reading holds, each counted each time it is reached (what is shared counts as often as it is met; a slice's spare places count too). A statement '..UptoSaid' is the law's where the arguments, and the package variables that the reading takes, are together of bulk at most 1048576: NARROWER than '..Said'. Prove '..Said' where nothing that the law and all that it calls make is longer than what came in: it says more and counts as full. Else prove '..UptoSaid'. A law counts once. -/
mutual
def uptoBulk {H : Type} : DataW H → Nat
  | .lit (.string bytes) => bytes.length + 1
  | .lit _ => 1
  | .nil => 1
  | .ptr d => uptoBulk d + 1
  | .slice elems spare => uptoBulkAll elems + uptoBulkAll spare + 1
  | .agg parts => uptoBulkAll parts + 1
  | .iface _ d => uptoBulk d + 1
  | .map entries => uptoBulkEntries entries + 1
  | .held _ => 1
def uptoBulkAll {H : Type} : List (DataW H) → Nat
  | [] => 0
  | d :: r => uptoBulk d + uptoBulkAll r
def uptoBulkEntries {H : Type} : List (Lit × DataW H) → Nat
  | [] => 0
  | x :: r => uptoBulkEntry x + uptoBulkEntries r
def uptoBulkEntry {H : Type} : Lit × DataW H → Nat
  | (.string bytes, d) => bytes.length + uptoBulk d + 1
  | (_, d) => uptoBulk d + 1
 end
def uptoSmall : (H : Type) → List (DataW H) → Bool := fun _ ds => decide (uptoBulkAll ds ≤ 1048576)
def OpenSpec.upto (s : _root_.Go.ChangeSpec) : _root_.Go.OpenSpec := { _root_.Go.OpenSpec.ofChange s with cond := some uptoSmall }

/-- 'corbellaw23.JudgeFair', WHERE WHAT IT READS IS OF BULK AT MOST 1048576: true; the input reads as it did. -/
def judgeFairUptoRow : OpenClaim := { program := "ytiolpmgphkakeaa", sum := "850f7c46a4724f62929131c7e9c188eeb13b20534c1670f18393edd5931fbeb5", func := "corbel/corbellaw23.JudgeFair", spec := "judgeFair", inPlace := ["internal/abi.NoEscape", "internal/bytealg.MakeNoZero"], unfollowed := true, recurses := true, apart := false, narrowed := true }
def JudgeFairUptoSaid : Prop := judgeFairUptoRow.holds Try.pinned (OpenSpec.upto judgeFairSpec)

/-- 'corbellaw23.JudgeKnows', WHERE WHAT IT READS IS OF BULK AT MOST 1048576: true; the input reads as it did. -/
def judgeKnowsUptoRow : OpenClaim := { program := "ytiolpmgphkakeaa", sum := "850f7c46a4724f62929131c7e9c188eeb13b20534c1670f18393edd5931fbeb5", func := "corbel/corbellaw23.JudgeKnows", spec := "judgeKnows", inPlace := ["internal/abi.NoEscape", "internal/bytealg.MakeNoZero"], unfollowed := true, recurses := true, apart := false, narrowed := true }
def JudgeKnowsUptoSaid : Prop := judgeKnowsUptoRow.holds Try.pinned (OpenSpec.upto judgeKnowsSpec)

/-- 'corbellaw23.JudgeScripts', WHERE WHAT IT READS IS OF BULK AT MOST 1048576: true; the input reads as it did. -/
def judgeScriptsUptoRow : OpenClaim := { program := "ytiolpmgphkakeaa", sum := "850f7c46a4724f62929131c7e9c188eeb13b20534c1670f18393edd5931fbeb5", func := "corbel/corbellaw23.JudgeScripts", spec := "judgeScripts", inPlace := ["internal/abi.NoEscape", "internal/bytealg.MakeNoZero"], unfollowed := true, recurses := true, apart := false, narrowed := true }
def JudgeScriptsUptoSaid : Prop := judgeScriptsUptoRow.holds Try.pinned (OpenSpec.upto judgeScriptsSpec)

/-- 'corbellaw12.TailKeeps', WHERE WHAT IT READS IS OF BULK AT MOST 1048576: true; the input reads as it did. -/
def tailKeepsUptoRow : OpenClaim := { program := "ytiolpmgphkakeaa", sum := "850f7c46a4724f62929131c7e9c188eeb13b20534c1670f18393edd5931fbeb5", func := "corbel/corbellaw12.TailKeeps", spec := "tailKeeps", inPlace := ["internal/abi.NoEscape", "internal/bytealg.MakeNoZero"], unfollowed := true, recurses := true, apart := false, narrowed := true }
def TailKeepsUptoSaid : Prop := tailKeepsUptoRow.holds Try.pinned (OpenSpec.upto tailKeepsSpec)

end Rows
end Go.Proofs.Ytiolpmgphkakeaa
