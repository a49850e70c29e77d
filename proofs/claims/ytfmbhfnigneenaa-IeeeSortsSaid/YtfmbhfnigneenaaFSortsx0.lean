/- Written by the session's fprint.py out of the translation. -/
import Derived.Test.YtfmbhfnigneenaaProg
import Derived.Below
import Derived.Deep.Draws
import Derived.Deep.AppendLies
import Derived.Maps.AppendAt
import Derived.OwnWalk
import Derived.Laws.BytesArg
import Derived.Laws.MakeOwn
import Derived.Laws.OwnMore
import Derived.Deep.OwnRows
import Derived.Tactics
import Derived.Lib.ConvBytes
import Derived.Laws.Slices
import Derived.WalkKit
import Derived.KernelRfl
import Derived.RowKit3
import Derived.Deep.LoopGhost
import Derived.Deep.QuietTactic
import Derived.BigQuiet
import Derived.WideLaws
import Derived.Deep.DeepCutAuto
import Derived.Deep.CutBlock
import Derived.Deep.RegionHeld3
import Derived.Laws.Rows
import Derived.Lib.AppendStr
import Derived.ArgAppend
import Derived.Laws.IdiomCopy
import Derived.OrdersHeld
import Derived.Laws.BitsLemmas
import Derived.RowKit
import Derived.Test.YtfmbhfnigneenaaFx
import Derived.Test.YtfmbhfnigneenaaWWords
import Derived.Test.YtfmbhfnigneenaaWLast
import Derived.Test.YtfmbhfnigneenaaWTab
import Derived.Test.YtfmbhfnigneenaaWFour
import Derived.Test.YtfmbhfnigneenaaWQPut
import Derived.Test.YtfmbhfnigneenaaWApart
import Derived.Test.YtfmbhfnigneenaaWArr
import Derived.Test.YtfmbhfnigneenaaWZeros
import Derived.Test.YtfmbhfnigneenaaWFoot
import Derived.Test.YtfmbhfnigneenaaWKept
import Derived.Test.YtfmbhfnigneenaaWShare
import Derived.Test.YtfmbhfnigneenaaWN
import Derived.Test.YtfmbhfnigneenaaWFootNe
import Derived.Test.YtfmbhfnigneenaaWAt
import Derived.Test.YtfmbhfnigneenaaWEqStruct
import Derived.Test.YtfmbhfnigneenaaWRepsOne
import Derived.Test.YtfmbhfnigneenaaWInv
import Derived.Test.YtfmbhfnigneenaaWInvWords
import Derived.Test.YtfmbhfnigneenaaWGuard
import Derived.Test.YtfmbhfnigneenaaWNEv
import Derived.Test.YtfmbhfnigneenaaWMore
namespace Go.Proofs.Ytfmbhfnigneenaa.FSorts
open Go.RowKit Go.Proofs.YtfmbhfnigneenaaW.PrintWords Go.Proofs.YtfmbhfnigneenaaW.PrintLast Go.Proofs.YtfmbhfnigneenaaW.PrintMore
attribute [local go_sem] max2_int min2_int max_two min_two max_three min_three max_four min_four   -- for this text's walks alone
open Go.Proofs.Ytfmbhfnigneenaa.FX
attribute [local go_sem] run_store_float
set_option linter.unusedVariables false
set_option linter.unusedSimpArgs false



def errW : Option Int → Value
  | none => .nilIface
  | some c => .iface 0 (.int .i64 c)
theorem errW_none : errW none = .nilIface := rfl
theorem errW_some (c : Int) : errW (some c) = .iface 0 (.int .i64 c) := rfl

theorem info26 : (Try.prog.info? 26).map (fun i => (i.zero, i.size, i.bytes)) = some (some (.int .u64 0), 1, 8) := by kernel_rfl
-- the values' own types

end Go.Proofs.Ytfmbhfnigneenaa.FSorts
