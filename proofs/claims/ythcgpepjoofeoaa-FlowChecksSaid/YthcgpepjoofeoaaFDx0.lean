/- Written by the session's fprint.py out of the translation. -/
import Derived.Test.YthcgpepjoofeoaaProg
import Derived.Below
import Derived.Deep.Draws
import Derived.Deep.AppendLies
import Derived.Maps.AppendAt
import Derived.OwnWalk
import Derived.Laws.BytesArg
import Derived.Laws.MakeOwn
import Derived.Laws.OwnMore
import Derived.Deep.OwnRows
import Derived.Tactics
import Derived.Lib.ConvBytes
import Derived.Laws.Slices
import Derived.WalkKit
import Derived.KernelRfl
import Derived.RowKit3
import Derived.Deep.LoopGhost
import Derived.Deep.QuietTactic
import Derived.BigQuiet
import Derived.WideLaws
import Derived.Deep.DeepCutAuto
import Derived.Deep.CutBlock
import Derived.Deep.RegionHeld3
import Derived.Laws.Rows
import Derived.Lib.AppendStr
import Derived.ArgAppend
import Derived.Laws.IdiomCopy
import Derived.OrdersHeld
import Derived.Laws.BitsLemmas
import Derived.RowKit
import Derived.Test.YthcgpepjoofeoaaAq
import Derived.Test.YthcgpepjoofeoaaFBx0
import Derived.Test.YthcgpepjoofeoaaFBx1
import Derived.Test.YthcgpepjoofeoaaFBx2
import Derived.Test.YthcgpepjoofeoaaFBx3
import Derived.Test.YthcgpepjoofeoaaFBx4
import Derived.Test.YthcgpepjoofeoaaAr
import Derived.Test.YthcgpepjoofeoaaWWords
import Derived.Test.YthcgpepjoofeoaaWLast
import Derived.Test.YthcgpepjoofeoaaWTab
import Derived.Test.YthcgpepjoofeoaaWFour
import Derived.Test.YthcgpepjoofeoaaWQPut
import Derived.Test.YthcgpepjoofeoaaWApart
import Derived.Test.YthcgpepjoofeoaaWArr
import Derived.Test.YthcgpepjoofeoaaWZeros
import Derived.Test.YthcgpepjoofeoaaWFoot
import Derived.Test.YthcgpepjoofeoaaWKept
import Derived.Test.YthcgpepjoofeoaaWShare
import Derived.Test.YthcgpepjoofeoaaWN
import Derived.Test.YthcgpepjoofeoaaWFootNe
import Derived.Test.YthcgpepjoofeoaaWAt
import Derived.Test.YthcgpepjoofeoaaWEqStruct
import Derived.Test.YthcgpepjoofeoaaWRepsOne
import Derived.Test.YthcgpepjoofeoaaWInv
import Derived.Test.YthcgpepjoofeoaaWInvWords
import Derived.Test.YthcgpepjoofeoaaWGuard
import Derived.Test.YthcgpepjoofeoaaWNEv
import Derived.Test.YthcgpepjoofeoaaWMore
namespace Go.Proofs.Ythcgpepjoofeoaa.FD
open Go.RowKit Go.Proofs.YthcgpepjoofeoaaW.PrintWords Go.Proofs.YthcgpepjoofeoaaW.PrintLast Go.Proofs.YthcgpepjoofeoaaW.PrintMore
attribute [local go_sem] max2_int min2_int max_two min_two max_three min_three max_four min_four   -- for this text's walks alone
open Go.Proofs.Ythcgpepjoofeoaa.FX Go.Proofs.Ythcgpepjoofeoaa.FB
attribute [local go_sem] run_store_float run_neg_float run_fmul isSome_setCell run_equalIn_float
set_option linter.unusedVariables false
set_option linter.unusedSimpArgs false



def errW : Option Int → Value
  | none => .nilIface
  | some c => .iface 0 (.int .i64 c)
theorem errW_none : errW none = .nilIface := rfl
theorem errW_some (c : Int) : errW (some c) = .iface 0 (.int .i64 c) := rfl

-- the values' own types
end Go.Proofs.Ythcgpepjoofeoaa.FD
