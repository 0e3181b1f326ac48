-- written by a program of this session (a print that was turned for this claim)
import Derived.Test.YtncdfikcdchimaaDoorProg
import Derived.Below
import Derived.Deep.Draws
import Derived.Deep.AppendLies
import Derived.Maps.AppendAt
import Derived.OwnWalk
import Derived.Laws.BytesArg
import Derived.Laws.MakeOwn
import Derived.Laws.OwnMore
import Derived.Deep.OwnRows
import Derived.Tactics
import Derived.Lib.ConvBytes
import Derived.Laws.Slices
import Derived.WalkKit
import Derived.KernelRfl
import Derived.RowKit3
import Derived.Deep.LoopGhost
import Derived.Deep.QuietTactic
import Derived.BigQuiet
import Derived.WideLaws
import Derived.Deep.DeepCutAuto
import Derived.Deep.CutBlock
import Derived.Deep.RegionHeld3
import Derived.Laws.Rows
import Derived.Lib.AppendStr
import Derived.ArgAppend
import Derived.Laws.IdiomCopy
import Derived.OrdersHeld
import Derived.Laws.BitsLemmas
import Derived.RowKit
import Derived.LoopN
import Derived.Test.YtncdfikcdchimaaDoorWWords
import Derived.Test.YtncdfikcdchimaaDoorWLast
import Derived.Test.YtncdfikcdchimaaDoorWTab
import Derived.Test.YtncdfikcdchimaaDoorWFour
import Derived.Test.YtncdfikcdchimaaDoorWQPut
import Derived.Test.YtncdfikcdchimaaDoorWApart
import Derived.Test.YtncdfikcdchimaaDoorWArr
import Derived.Test.YtncdfikcdchimaaDoorWZeros
import Derived.Test.YtncdfikcdchimaaDoorWFoot
import Derived.Test.YtncdfikcdchimaaDoorWKept
import Derived.Test.YtncdfikcdchimaaDoorWShare
import Derived.Test.YtncdfikcdchimaaDoorWN
import Derived.Test.YtncdfikcdchimaaDoorWFootNe
import Derived.Test.YtncdfikcdchimaaDoorWAt
import Derived.Test.YtncdfikcdchimaaDoorWEqStruct
import Derived.Test.YtncdfikcdchimaaDoorWRepsOne
import Derived.Test.YtncdfikcdchimaaDoorWInv
import Derived.Test.YtncdfikcdchimaaDoorWInvWords
import Derived.Test.YtncdfikcdchimaaDoorWGuard
import Derived.Test.YtncdfikcdchimaaDoorWNEv
import Derived.Test.YtncdfikcdchimaaDoorWMore
namespace Go.Proofs.YtncdfikcdchimaaDoor.PCrcSums
open Go.RowKit Go.Proofs.YtncdfikcdchimaaDoorW.PrintWords Go.Proofs.YtncdfikcdchimaaDoorW.PrintLast Go.Proofs.YtncdfikcdchimaaDoorW.PrintMore
attribute [local go_sem] max2_int min2_int max_two min_two max_three min_three max_four min_four   -- for this text's walks alone
set_option linter.unusedVariables false
set_option linter.unusedSimpArgs false



def errW : Option Int → Value
  | none => .nilIface
  | some c => .iface 0 (.int .i64 c)
theorem errW_none : errW none = .nilIface := rfl
theorem errW_some (c : Int) : errW (some c) = .iface 0 (.int .i64 c) := rfl
theorem cell_set_twice {w : World} {a : Addr} {u v : Value} (h : w.cell? a = some u) : (w.setCell a v).cell? a = some v := World.cell?_setCell_same _ _ _ h
theorem cell_set_past {w : World} {a b : Addr} {u v : Value} (h : w.cell? a = some u) (hne : b ≠ a) : (w.setCell b v).cell? a = some u := (World.cell?_setCell_other _ _ _ _ hne).trans h

theorem info9 : (Tryd.prog.info? 9).map (fun i => (i.zero, i.size, i.bytes)) = some (some (.string ⟨#[]⟩), 1, 16) := by kernel_rfl
-- the values' own types

end Go.Proofs.YtncdfikcdchimaaDoor.PCrcSums
