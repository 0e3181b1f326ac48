-- written by a program of this session (a print that was turned for this claim)
import Derived.Test.YtncdfikcdchimaaProg
import Derived.Below
import Derived.Deep.Draws
import Derived.Deep.AppendLies
import Derived.Maps.AppendAt
import Derived.OwnWalk
import Derived.Laws.BytesArg
import Derived.Laws.MakeOwn
import Derived.Laws.OwnMore
import Derived.Deep.OwnRows
import Derived.Tactics
import Derived.Lib.ConvBytes
import Derived.Laws.Slices
import Derived.WalkKit
import Derived.KernelRfl
import Derived.RowKit3
import Derived.Deep.LoopGhost
import Derived.Deep.QuietTactic
import Derived.BigQuiet
import Derived.WideLaws
import Derived.Deep.DeepCutAuto
import Derived.Deep.CutBlock
import Derived.Deep.RegionHeld3
import Derived.Laws.Rows
import Derived.Lib.AppendStr
import Derived.ArgAppend
import Derived.Laws.IdiomCopy
import Derived.OrdersHeld
import Derived.Laws.BitsLemmas
import Derived.RowKit
import Derived.LoopN
import Derived.Lib.SliceRun
import Derived.Test.YtncdfikcdchimaaWWords
import Derived.Test.YtncdfikcdchimaaWLast
import Derived.Test.YtncdfikcdchimaaWTab
import Derived.Test.YtncdfikcdchimaaWFour
import Derived.Test.YtncdfikcdchimaaWQPut
import Derived.Test.YtncdfikcdchimaaWApart
import Derived.Test.YtncdfikcdchimaaWArr
import Derived.Test.YtncdfikcdchimaaWZeros
import Derived.Test.YtncdfikcdchimaaWFoot
import Derived.Test.YtncdfikcdchimaaWKept
import Derived.Test.YtncdfikcdchimaaWShare
import Derived.Test.YtncdfikcdchimaaWN
import Derived.Test.YtncdfikcdchimaaWFootNe
import Derived.Test.YtncdfikcdchimaaWAt
import Derived.Test.YtncdfikcdchimaaWEqStruct
import Derived.Test.YtncdfikcdchimaaWRepsOne
import Derived.Test.YtncdfikcdchimaaWInv
import Derived.Test.YtncdfikcdchimaaWInvWords
import Derived.Test.YtncdfikcdchimaaWGuard
import Derived.Test.YtncdfikcdchimaaWNEv
import Derived.Test.YtncdfikcdchimaaWMore
namespace Go.Proofs.Ytncdfikcdchimaa.PNumsGets
open Go.RowKit Go.Proofs.YtncdfikcdchimaaW.PrintWords Go.Proofs.YtncdfikcdchimaaW.PrintLast Go.Proofs.YtncdfikcdchimaaW.PrintMore
attribute [local go_sem] max2_int min2_int max_two min_two max_three min_three max_four min_four   -- for this text's walks alone
set_option linter.unusedVariables false
set_option linter.unusedSimpArgs false



def errW : Option Int → Value
  | none => .nilIface
  | some c => .iface 0 (.int .i64 c)
theorem errW_none : errW none = .nilIface := rfl
theorem errW_some (c : Int) : errW (some c) = .iface 0 (.int .i64 c) := rfl
theorem cell_set_twice {w : World} {a : Addr} {u v : Value} (h : w.cell? a = some u) : (w.setCell a v).cell? a = some v := World.cell?_setCell_same _ _ _ h
theorem cell_set_past {w : World} {a b : Addr} {u v : Value} (h : w.cell? a = some u) (hne : b ≠ a) : (w.setCell b v).cell? a = some u := (World.cell?_setCell_other _ _ _ _ hne).trans h

theorem info3 : (Try.prog.info? 3).map (fun i => (i.zero, i.size, i.bytes)) = some (some (.int .i64 0), 1, 8) := by kernel_rfl
theorem info5 : (Try.prog.info? 5).map (fun i => (i.zero, i.size, i.bytes)) = some (some (.int .u8 0), 1, 1) := by kernel_rfl
-- the values' own types

end Go.Proofs.Ytncdfikcdchimaa.PNumsGets
