-- written by a program of this session (a print that was turned for this claim)
import Derived.Test.YtkokbcijgikkgaaProg
import Derived.Below
import Derived.Deep.Draws
import Derived.Deep.AppendLies
import Derived.Maps.AppendAt
import Derived.OwnWalk
import Derived.Laws.BytesArg
import Derived.Laws.MakeOwn
import Derived.Laws.OwnMore
import Derived.Deep.OwnRows
import Derived.Tactics
import Derived.Lib.ConvBytes
import Derived.Laws.Slices
import Derived.WalkKit
import Derived.KernelRfl
import Derived.RowKit3
import Derived.Deep.LoopGhost
import Derived.Deep.QuietTactic
import Derived.BigQuiet
import Derived.WideLaws
import Derived.Deep.DeepCutAuto
import Derived.Deep.CutBlock
import Derived.Deep.RegionHeld3
import Derived.Laws.Rows
import Derived.Lib.AppendStr
import Derived.ArgAppend
import Derived.Laws.IdiomCopy
import Derived.OrdersHeld
import Derived.Laws.BitsLemmas
import Derived.RowKit
import Derived.Test.YtkokbcijgikkgaaWWords
import Derived.Test.YtkokbcijgikkgaaWLast
import Derived.Test.YtkokbcijgikkgaaWTab
import Derived.Test.YtkokbcijgikkgaaWFour
import Derived.Test.YtkokbcijgikkgaaWQPut
import Derived.Test.YtkokbcijgikkgaaWApart
import Derived.Test.YtkokbcijgikkgaaWArr
import Derived.Test.YtkokbcijgikkgaaWZeros
import Derived.Test.YtkokbcijgikkgaaWFoot
import Derived.Test.YtkokbcijgikkgaaWKept
import Derived.Test.YtkokbcijgikkgaaWShare
import Derived.Test.YtkokbcijgikkgaaWN
import Derived.Test.YtkokbcijgikkgaaWFootNe
import Derived.Test.YtkokbcijgikkgaaWAt
import Derived.Test.YtkokbcijgikkgaaWEqStruct
import Derived.Test.YtkokbcijgikkgaaWRepsOne
import Derived.Test.YtkokbcijgikkgaaWInv
import Derived.Test.YtkokbcijgikkgaaWInvWords
import Derived.Test.YtkokbcijgikkgaaWGuard
import Derived.Test.YtkokbcijgikkgaaWNEv
import Derived.Test.YtkokbcijgikkgaaWMore
namespace Go.Proofs.Ytkokbcijgikkgaa.PFitSizes
open Go.RowKit Go.Proofs.YtkokbcijgikkgaaW.PrintWords Go.Proofs.YtkokbcijgikkgaaW.PrintLast Go.Proofs.YtkokbcijgikkgaaW.PrintMore
attribute [local go_sem] max2_int min2_int max_two min_two max_three min_three max_four min_four   -- for this text's walks alone
set_option linter.unusedVariables false
set_option linter.unusedSimpArgs false



def errW : Option Int → Value
  | none => .nilIface
  | some c => .iface 0 (.int .i64 c)
theorem errW_none : errW none = .nilIface := rfl
theorem errW_some (c : Int) : errW (some c) = .iface 0 (.int .i64 c) := rfl

-- the values' own types

end Go.Proofs.Ytkokbcijgikkgaa.PFitSizes
