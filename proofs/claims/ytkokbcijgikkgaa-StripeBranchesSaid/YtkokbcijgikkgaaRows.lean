/-
  No cell of these rows narrows 'for every input' (looked for: loops, veiled, ifaces, maps, wideKeys, modest, calm, conditions, laid).
  DERIVED. THE GIVEN ROWS OF THIS SEAT. 12 by the template 'for every input the law returns true; each argument reads behind the call as it read before'; 0 by the template 'total and deterministic' (their statements: YtkokbcijgikkgaaTotals.lean).
  GIVEN WITH THE SEED: the statements are not yours to turn. If you find one false, say at which input.
  Laid BY PROGRAM, IN A SANDBOX (cutbox-rows.mjs): the forced cells as the released guide's own fill.sh prints them over the translation a135464c3e954a05… (all of the seat's roots in one cut). By AI agents, Wed Nov 11 2026. No macro, syntax, notation, axiom, sorry.
-/
import Derived.Test.YtkokbcijgikkgaaChecked
import GoSem.Claim
import GoSem.ClaimJoined
import GoSem.ClaimMapViews
import Derived.JoinedTies
import Derived.KernelRfl
namespace Go.Proofs.Ytkokbcijgikkgaa
/- THE CELL 'sum', in the pinned program and in every row, IS THE sha256 OF THE DUMP (.gsa) THAT YtkokbcijgikkgaaProg.lean LOADS. Nothing in Lean hashes anything: it is a label: what it is worth is what the hold of that sum in a sandbox is worth. -/
noncomputable def Try.pinned : Pinned := { name := "ytkokbcijgikkgaa", sum := "a135464c3e954a0526decaf6c26281179e677031b044f84064d3a330ce8b2013", checked := Try.checked }
namespace Rows
def none {H : Type} : Left H := { results := [], args := [] }

/-- 'corbellaw04.GeomTurns': WHATEVER THE INPUT: true; the input reads as it did. -/
def geomTurnsSpec : ChangeSpec := { name := "geomTurns", fn := fun _ => fun
  | [d1, d2, d3] => { results := [.lit (.bool true)], args := [d1, d2, d3] }
  | _ => none }
def geomTurnsRow : OpenClaim := { program := "ytkokbcijgikkgaa", sum := "a135464c3e954a0526decaf6c26281179e677031b044f84064d3a330ce8b2013", func := "corbel/corbellaw04.GeomTurns", spec := "geomTurns", apart := false }
def GeomTurnsSaid : Prop := geomTurnsRow.holds Try.pinned (OpenSpec.ofChange geomTurnsSpec)

/-- ITS FALSE NEIGHBOUR: 'it returns false'. Refute it at one input. -/
def geomTurnsWrong : ChangeSpec := { name := "geomTurns", fn := fun _ => fun
  | [d1, d2, d3] => { results := [.lit (.bool false)], args := [d1, d2, d3] }
  | _ => none }
def GeomTurnsWrongFalsely : Prop := geomTurnsRow.holds Try.pinned (OpenSpec.ofChange geomTurnsWrong)

/-- 'corbellaw04.GeomPlaces': WHATEVER THE INPUT: true; the input reads as it did. -/
def geomPlacesSpec : ChangeSpec := { name := "geomPlaces", fn := fun _ => fun
  | [d1, d2, d3] => { results := [.lit (.bool true)], args := [d1, d2, d3] }
  | _ => none }
def geomPlacesRow : OpenClaim := { program := "ytkokbcijgikkgaa", sum := "a135464c3e954a0526decaf6c26281179e677031b044f84064d3a330ce8b2013", func := "corbel/corbellaw04.GeomPlaces", spec := "geomPlaces", apart := false }
def GeomPlacesSaid : Prop := geomPlacesRow.holds Try.pinned (OpenSpec.ofChange geomPlacesSpec)

/-- ITS FALSE NEIGHBOUR: 'it returns false'. Refute it at one input. -/
def geomPlacesWrong : ChangeSpec := { name := "geomPlaces", fn := fun _ => fun
  | [d1, d2, d3] => { results := [.lit (.bool false)], args := [d1, d2, d3] }
  | _ => none }
def GeomPlacesWrongFalsely : Prop := geomPlacesRow.holds Try.pinned (OpenSpec.ofChange geomPlacesWrong)

/-- 'corbellaw04.GeomOnce': WHATEVER THE INPUT: true; the input reads as it did. -/
def geomOnceSpec : ChangeSpec := { name := "geomOnce", fn := fun _ => fun
  | [d1, d2, d3] => { results := [.lit (.bool true)], args := [d1, d2, d3] }
  | _ => none }
def geomOnceRow : OpenClaim := { program := "ytkokbcijgikkgaa", sum := "a135464c3e954a0526decaf6c26281179e677031b044f84064d3a330ce8b2013", func := "corbel/corbellaw04.GeomOnce", spec := "geomOnce", apart := false }
def GeomOnceSaid : Prop := geomOnceRow.holds Try.pinned (OpenSpec.ofChange geomOnceSpec)

/-- ITS FALSE NEIGHBOUR: 'it returns false'. Refute it at one input. -/
def geomOnceWrong : ChangeSpec := { name := "geomOnce", fn := fun _ => fun
  | [d1, d2, d3] => { results := [.lit (.bool false)], args := [d1, d2, d3] }
  | _ => none }
def GeomOnceWrongFalsely : Prop := geomOnceRow.holds Try.pinned (OpenSpec.ofChange geomOnceWrong)

/-- 'corbellaw04.GeomNumbers': WHATEVER THE INPUT: true; the input reads as it did. -/
def geomNumbersSpec : ChangeSpec := { name := "geomNumbers", fn := fun _ => fun
  | [d1, d2] => { results := [.lit (.bool true)], args := [d1, d2] }
  | _ => none }
def geomNumbersRow : OpenClaim := { program := "ytkokbcijgikkgaa", sum := "a135464c3e954a0526decaf6c26281179e677031b044f84064d3a330ce8b2013", func := "corbel/corbellaw04.GeomNumbers", spec := "geomNumbers", apart := false }
def GeomNumbersSaid : Prop := geomNumbersRow.holds Try.pinned (OpenSpec.ofChange geomNumbersSpec)

/-- ITS FALSE NEIGHBOUR: 'it returns false'. Refute it at one input. -/
def geomNumbersWrong : ChangeSpec := { name := "geomNumbers", fn := fun _ => fun
  | [d1, d2] => { results := [.lit (.bool false)], args := [d1, d2] }
  | _ => none }
def GeomNumbersWrongFalsely : Prop := geomNumbersRow.holds Try.pinned (OpenSpec.ofChange geomNumbersWrong)

/-- 'corbellaw04.GeomSizes': WHATEVER THE INPUT: true; the input reads as it did. -/
def geomSizesSpec : ChangeSpec := { name := "geomSizes", fn := fun _ => fun
  | [d1, d2, d3] => { results := [.lit (.bool true)], args := [d1, d2, d3] }
  | _ => none }
def geomSizesRow : OpenClaim := { program := "ytkokbcijgikkgaa", sum := "a135464c3e954a0526decaf6c26281179e677031b044f84064d3a330ce8b2013", func := "corbel/corbellaw04.GeomSizes", spec := "geomSizes", apart := false }
def GeomSizesSaid : Prop := geomSizesRow.holds Try.pinned (OpenSpec.ofChange geomSizesSpec)

/-- ITS FALSE NEIGHBOUR: 'it returns false'. Refute it at one input. -/
def geomSizesWrong : ChangeSpec := { name := "geomSizes", fn := fun _ => fun
  | [d1, d2, d3] => { results := [.lit (.bool false)], args := [d1, d2, d3] }
  | _ => none }
def GeomSizesWrongFalsely : Prop := geomSizesRow.holds Try.pinned (OpenSpec.ofChange geomSizesWrong)

/-- 'corbellaw04.GeomNext': WHATEVER THE INPUT: true; the input reads as it did. -/
def geomNextSpec : ChangeSpec := { name := "geomNext", fn := fun _ => fun
  | [d1, d2] => { results := [.lit (.bool true)], args := [d1, d2] }
  | _ => none }
def geomNextRow : OpenClaim := { program := "ytkokbcijgikkgaa", sum := "a135464c3e954a0526decaf6c26281179e677031b044f84064d3a330ce8b2013", func := "corbel/corbellaw04.GeomNext", spec := "geomNext", apart := false }
def GeomNextSaid : Prop := geomNextRow.holds Try.pinned (OpenSpec.ofChange geomNextSpec)

/-- ITS FALSE NEIGHBOUR: 'it returns false'. Refute it at one input. -/
def geomNextWrong : ChangeSpec := { name := "geomNext", fn := fun _ => fun
  | [d1, d2] => { results := [.lit (.bool false)], args := [d1, d2] }
  | _ => none }
def GeomNextWrongFalsely : Prop := geomNextRow.holds Try.pinned (OpenSpec.ofChange geomNextWrong)

/-- 'corbellaw21.FitPacks': WHATEVER THE INPUT: true; the input reads as it did. -/
def fitPacksSpec : ChangeSpec := { name := "fitPacks", fn := fun _ => fun
  | [d] => { results := [.lit (.bool true)], args := [d] }
  | _ => none }
def fitPacksRow : OpenClaim := { program := "ytkokbcijgikkgaa", sum := "a135464c3e954a0526decaf6c26281179e677031b044f84064d3a330ce8b2013", func := "corbel/corbellaw21.FitPacks", spec := "fitPacks", apart := false }
def FitPacksSaid : Prop := fitPacksRow.holds Try.pinned (OpenSpec.ofChange fitPacksSpec)

/-- ITS FALSE NEIGHBOUR: 'it returns false'. Refute it at one input. -/
def fitPacksWrong : ChangeSpec := { name := "fitPacks", fn := fun _ => fun
  | [d] => { results := [.lit (.bool false)], args := [d] }
  | _ => none }
def FitPacksWrongFalsely : Prop := fitPacksRow.holds Try.pinned (OpenSpec.ofChange fitPacksWrong)

/-- 'corbellaw21.FitGrows': WHATEVER THE INPUT: true; the input reads as it did. -/
def fitGrowsSpec : ChangeSpec := { name := "fitGrows", fn := fun _ => fun
  | [d1, d2] => { results := [.lit (.bool true)], args := [d1, d2] }
  | _ => none }
def fitGrowsRow : OpenClaim := { program := "ytkokbcijgikkgaa", sum := "a135464c3e954a0526decaf6c26281179e677031b044f84064d3a330ce8b2013", func := "corbel/corbellaw21.FitGrows", spec := "fitGrows", apart := false }
def FitGrowsSaid : Prop := fitGrowsRow.holds Try.pinned (OpenSpec.ofChange fitGrowsSpec)

/-- ITS FALSE NEIGHBOUR: 'it returns false'. Refute it at one input. -/
def fitGrowsWrong : ChangeSpec := { name := "fitGrows", fn := fun _ => fun
  | [d1, d2] => { results := [.lit (.bool false)], args := [d1, d2] }
  | _ => none }
def FitGrowsWrongFalsely : Prop := fitGrowsRow.holds Try.pinned (OpenSpec.ofChange fitGrowsWrong)

/-- 'corbellaw21.FitSizes': WHATEVER THE INPUT: true; the input reads as it did. -/
def fitSizesSpec : ChangeSpec := { name := "fitSizes", fn := fun _ => fun
  | [d1, d2, d3] => { results := [.lit (.bool true)], args := [d1, d2, d3] }
  | _ => none }
def fitSizesRow : OpenClaim := { program := "ytkokbcijgikkgaa", sum := "a135464c3e954a0526decaf6c26281179e677031b044f84064d3a330ce8b2013", func := "corbel/corbellaw21.FitSizes", spec := "fitSizes", apart := false }
def FitSizesSaid : Prop := fitSizesRow.holds Try.pinned (OpenSpec.ofChange fitSizesSpec)

/-- ITS FALSE NEIGHBOUR: 'it returns false'. Refute it at one input. -/
def fitSizesWrong : ChangeSpec := { name := "fitSizes", fn := fun _ => fun
  | [d1, d2, d3] => { results := [.lit (.bool false)], args := [d1, d2, d3] }
  | _ => none }
def FitSizesWrongFalsely : Prop := fitSizesRow.holds Try.pinned (OpenSpec.ofChange fitSizesWrong)

/-- 'corbellaw11.StripePieces': WHATEVER THE INPUT: true; the input reads as it did. -/
def stripePiecesSpec : ChangeSpec := { name := "stripePieces", fn := fun _ => fun
  | [d1, d2, d3] => { results := [.lit (.bool true)], args := [d1, d2, d3] }
  | _ => none }
def stripePiecesRow : OpenClaim := { program := "ytkokbcijgikkgaa", sum := "a135464c3e954a0526decaf6c26281179e677031b044f84064d3a330ce8b2013", func := "corbel/corbellaw11.StripePieces", spec := "stripePieces", apart := false }
def StripePiecesSaid : Prop := stripePiecesRow.holds Try.pinned (OpenSpec.ofChange stripePiecesSpec)

/-- ITS FALSE NEIGHBOUR: 'it returns false'. Refute it at one input. -/
def stripePiecesWrong : ChangeSpec := { name := "stripePieces", fn := fun _ => fun
  | [d1, d2, d3] => { results := [.lit (.bool false)], args := [d1, d2, d3] }
  | _ => none }
def StripePiecesWrongFalsely : Prop := stripePiecesRow.holds Try.pinned (OpenSpec.ofChange stripePiecesWrong)

/-- 'corbellaw11.StripeBranches': WHATEVER THE INPUT: true; the input reads as it did. -/
def stripeBranchesSpec : ChangeSpec := { name := "stripeBranches", fn := fun _ => fun
  | [d1, d2, d3] => { results := [.lit (.bool true)], args := [d1, d2, d3] }
  | _ => none }
def stripeBranchesRow : OpenClaim := { program := "ytkokbcijgikkgaa", sum := "a135464c3e954a0526decaf6c26281179e677031b044f84064d3a330ce8b2013", func := "corbel/corbellaw11.StripeBranches", spec := "stripeBranches", apart := false }
def StripeBranchesSaid : Prop := stripeBranchesRow.holds Try.pinned (OpenSpec.ofChange stripeBranchesSpec)

/-- ITS FALSE NEIGHBOUR: 'it returns false'. Refute it at one input. -/
def stripeBranchesWrong : ChangeSpec := { name := "stripeBranches", fn := fun _ => fun
  | [d1, d2, d3] => { results := [.lit (.bool false)], args := [d1, d2, d3] }
  | _ => none }
def StripeBranchesWrongFalsely : Prop := stripeBranchesRow.holds Try.pinned (OpenSpec.ofChange stripeBranchesWrong)

/-- 'corbellaw19.LmapOrder': WHATEVER THE INPUT: true; the input reads as it did. -/
def lmapOrderSpec : ChangeSpec := { name := "lmapOrder", fn := fun _ => fun
  | [d1, d2] => { results := [.lit (.bool true)], args := [d1, d2] }
  | _ => none }
def lmapOrderRow : OpenClaim := { program := "ytkokbcijgikkgaa", sum := "a135464c3e954a0526decaf6c26281179e677031b044f84064d3a330ce8b2013", func := "corbel/corbellaw19.LmapOrder", spec := "lmapOrder", apart := false }
def LmapOrderSaid : Prop := lmapOrderRow.holds Try.pinned (OpenSpec.ofChange lmapOrderSpec)

/-- ITS FALSE NEIGHBOUR: 'it returns false'. Refute it at one input. -/
def lmapOrderWrong : ChangeSpec := { name := "lmapOrder", fn := fun _ => fun
  | [d1, d2] => { results := [.lit (.bool false)], args := [d1, d2] }
  | _ => none }
def LmapOrderWrongFalsely : Prop := lmapOrderRow.holds Try.pinned (OpenSpec.ofChange lmapOrderWrong)

/- THE SECOND FORM. 'bulk': how many values and letters a reading holds, each counted each time it is reached (what is shared counts as often as it is met; a slice's spare places count too). A statement '..UptoSaid' is the law's where the arguments, and the package variables that the reading takes, are together of bulk at most 1048576: NARROWER than '..Said'. Prove '..Said' where nothing that the law and all that it calls make is longer than what came in: it says more and counts as full. Else prove '..UptoSaid'. A law counts once. -/
mutual
def uptoBulk {H : Type} : DataW H → Nat
  | .lit (.string bytes) => bytes.length + 1
  | .lit _ => 1
  | .nil => 1
  | .ptr d => uptoBulk d + 1
  | .slice elems spare => uptoBulkAll elems + uptoBulkAll spare + 1
  | .agg parts => uptoBulkAll parts + 1
  | .iface _ d => uptoBulk d + 1
  | .map entries => uptoBulkEntries entries + 1
  | .held _ => 1
def uptoBulkAll {H : Type} : List (DataW H) → Nat
  | [] => 0
  | d :: r => uptoBulk d + uptoBulkAll r
def uptoBulkEntries {H : Type} : List (Lit × DataW H) → Nat
  | [] => 0
  | x :: r => uptoBulkEntry x + uptoBulkEntries r
def uptoBulkEntry {H : Type} : Lit × DataW H → Nat
  | (.string bytes, d) => bytes.length + uptoBulk d + 1
  | (_, d) => uptoBulk d + 1
 end
def uptoSmall : (H : Type) → List (DataW H) → Bool := fun _ ds => decide (uptoBulkAll ds ≤ 1048576)
def OpenSpec.upto (s : _root_.Go.ChangeSpec) : _root_.Go.OpenSpec := { _root_.Go.OpenSpec.ofChange s with cond := some uptoSmall }

/-- 'corbellaw04.GeomTurns', WHERE WHAT IT READS IS OF BULK AT MOST 1048576: true; the input reads as it did. -/
def geomTurnsUptoRow : OpenClaim := { program := "ytkokbcijgikkgaa", sum := "a135464c3e954a0526decaf6c26281179e677031b044f84064d3a330ce8b2013", func := "corbel/corbellaw04.GeomTurns", spec := "geomTurns", apart := false, narrowed := true }
def GeomTurnsUptoSaid : Prop := geomTurnsUptoRow.holds Try.pinned (OpenSpec.upto geomTurnsSpec)

/-- 'corbellaw04.GeomPlaces', WHERE WHAT IT READS IS OF BULK AT MOST 1048576: true; the input reads as it did. -/
def geomPlacesUptoRow : OpenClaim := { program := "ytkokbcijgikkgaa", sum := "a135464c3e954a0526decaf6c26281179e677031b044f84064d3a330ce8b2013", func := "corbel/corbellaw04.GeomPlaces", spec := "geomPlaces", apart := false, narrowed := true }
def GeomPlacesUptoSaid : Prop := geomPlacesUptoRow.holds Try.pinned (OpenSpec.upto geomPlacesSpec)

/-- 'corbellaw04.GeomOnce', WHERE WHAT IT READS IS OF BULK AT MOST 1048576: true; the input reads as it did. -/
def geomOnceUptoRow : OpenClaim := { program := "ytkokbcijgikkgaa", sum := "a135464c3e954a0526decaf6c26281179e677031b044f84064d3a330ce8b2013", func := "corbel/corbellaw04.GeomOnce", spec := "geomOnce", apart := false, narrowed := true }
def GeomOnceUptoSaid : Prop := geomOnceUptoRow.holds Try.pinned (OpenSpec.upto geomOnceSpec)

/-- 'corbellaw04.GeomNumbers', WHERE WHAT IT READS IS OF BULK AT MOST 1048576: true; the input reads as it did. -/
def geomNumbersUptoRow : OpenClaim := { program := "ytkokbcijgikkgaa", sum := "a135464c3e954a0526decaf6c26281179e677031b044f84064d3a330ce8b2013", func := "corbel/corbellaw04.GeomNumbers", spec := "geomNumbers", apart := false, narrowed := true }
def GeomNumbersUptoSaid : Prop := geomNumbersUptoRow.holds Try.pinned (OpenSpec.upto geomNumbersSpec)

/-- 'corbellaw04.GeomSizes', WHERE WHAT IT READS IS OF BULK AT MOST 1048576: true; the input reads as it did. -/
def geomSizesUptoRow : OpenClaim := { program := "ytkokbcijgikkgaa", sum := "a135464c3e954a0526decaf6c26281179e677031b044f84064d3a330ce8b2013", func := "corbel/corbellaw04.GeomSizes", spec := "geomSizes", apart := false, narrowed := true }
def GeomSizesUptoSaid : Prop := geomSizesUptoRow.holds Try.pinned (OpenSpec.upto geomSizesSpec)

/-- 'corbellaw04.GeomNext', WHERE WHAT IT READS IS OF BULK AT MOST 1048576: true; the input reads as it did. -/
def geomNextUptoRow : OpenClaim := { program := "ytkokbcijgikkgaa", sum := "a135464c3e954a0526decaf6c26281179e677031b044f84064d3a330ce8b2013", func := "corbel/corbellaw04.GeomNext", spec := "geomNext", apart := false, narrowed := true }
def GeomNextUptoSaid : Prop := geomNextUptoRow.holds Try.pinned (OpenSpec.upto geomNextSpec)

/-- 'corbellaw21.FitPacks', WHERE WHAT IT READS IS OF BULK AT MOST 1048576: true; the input reads as it did. -/
def fitPacksUptoRow : OpenClaim := { program := "ytkokbcijgikkgaa", sum := "a135464c3e954a0526decaf6c26281179e677031b044f84064d3a330ce8b2013", func := "corbel/corbellaw21.FitPacks", spec := "fitPacks", apart := false, narrowed := true }
def FitPacksUptoSaid : Prop := fitPacksUptoRow.holds Try.pinned (OpenSpec.upto fitPacksSpec)

/-- 'corbellaw21.FitGrows', WHERE WHAT IT READS IS OF BULK AT MOST 1048576: true; the input reads as it did. -/
def fitGrowsUptoRow : OpenClaim := { program := "ytkokbcijgikkgaa", sum := "a135464c3e954a0526decaf6c26281179e677031b044f84064d3a330ce8b2013", func := "corbel/corbellaw21.FitGrows", spec := "fitGrows", apart := false, narrowed := true }
def FitGrowsUptoSaid : Prop := fitGrowsUptoRow.holds Try.pinned (OpenSpec.upto fitGrowsSpec)

/-- 'corbellaw21.FitSizes', WHERE WHAT IT READS IS OF BULK AT MOST 1048576: true; the input reads as it did. -/
def fitSizesUptoRow : OpenClaim := { program := "ytkokbcijgikkgaa", sum := "a135464c3e954a0526decaf6c26281179e677031b044f84064d3a330ce8b2013", func := "corbel/corbellaw21.FitSizes", spec := "fitSizes", apart := false, narrowed := true }
def FitSizesUptoSaid : Prop := fitSizesUptoRow.holds Try.pinned (OpenSpec.upto fitSizesSpec)

/-- 'corbellaw11.StripePieces', WHERE WHAT IT READS IS OF BULK AT MOST 1048576: true; the input reads as it did. -/
def stripePiecesUptoRow : OpenClaim := { program := "ytkokbcijgikkgaa", sum := "a135464c3e954a0526decaf6c26281179e677031b044f84064d3a330ce8b2013", func := "corbel/corbellaw11.StripePieces", spec := "stripePieces", apart := false, narrowed := true }
def StripePiecesUptoSaid : Prop := stripePiecesUptoRow.holds Try.pinned (OpenSpec.upto stripePiecesSpec)

/-- 'corbellaw11.StripeBranches', WHERE WHAT IT READS IS OF BULK AT MOST 1048576: true; the input reads as it did. -/
def stripeBranchesUptoRow : OpenClaim := { program := "ytkokbcijgikkgaa", sum := "a135464c3e954a0526decaf6c26281179e677031b044f84064d3a330ce8b2013", func := "corbel/corbellaw11.StripeBranches", spec := "stripeBranches", apart := false, narrowed := true }
def StripeBranchesUptoSaid : Prop := stripeBranchesUptoRow.holds Try.pinned (OpenSpec.upto stripeBranchesSpec)

/-- 'corbellaw19.LmapOrder', WHERE WHAT IT READS IS OF BULK AT MOST 1048576: true; the input reads as it did. -/
def lmapOrderUptoRow : OpenClaim := { program := "ytkokbcijgikkgaa", sum := "a135464c3e954a0526decaf6c26281179e677031b044f84064d3a330ce8b2013", func := "corbel/corbellaw19.LmapOrder", spec := "lmapOrder", apart := false, narrowed := true }
def LmapOrderUptoSaid : Prop := lmapOrderUptoRow.holds Try.pinned (OpenSpec.upto lmapOrderSpec)

end Rows
end Go.Proofs.Ytkokbcijgikkgaa
