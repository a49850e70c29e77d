/- Written by the session's fprint.py out of the translation. -/
import Derived.Test.YthkcphdhmkcdkaaGreatProg
import Derived.Below
import Derived.Deep.Draws
import Derived.Deep.AppendLies
import Derived.Maps.AppendAt
import Derived.OwnWalk
import Derived.Laws.BytesArg
import Derived.Laws.MakeOwn
import Derived.Laws.OwnMore
import Derived.Deep.OwnRows
import Derived.Tactics
import Derived.Lib.ConvBytes
import Derived.Laws.Slices
import Derived.WalkKit
import Derived.KernelRfl
import Derived.RowKit3
import Derived.Deep.LoopGhost
import Derived.Deep.QuietTactic
import Derived.BigQuiet
import Derived.WideLaws
import Derived.Deep.DeepCutAuto
import Derived.Deep.CutBlock
import Derived.Deep.RegionHeld3
import Derived.Laws.Rows
import Derived.Lib.AppendStr
import Derived.ArgAppend
import Derived.Laws.IdiomCopy
import Derived.OrdersHeld
import Derived.Laws.BitsLemmas
import Derived.RowKit
import Derived.Test.YthkcphdhmkcdkaaGreatPx
import Derived.Test.YthkcphdhmkcdkaaGreatFBx1
import Derived.Test.YthkcphdhmkcdkaaGreatFPx1
import Derived.Test.YthkcphdhmkcdkaaGreatFPx2
import Derived.Test.YthkcphdhmkcdkaaGreatFPx5
import Derived.Test.YthkcphdhmkcdkaaGreatFQx1
import Derived.Test.YthkcphdhmkcdkaaGreatAp
import Derived.Test.YthkcphdhmkcdkaaGreatZ0
namespace Go.Proofs.YthkcphdhmkcdkaaGreat.FV2
noncomputable section
open Go.RowKit Go.Proofs.YthkcphdhmkcdkaaGreatW.PrintWords Go.Proofs.YthkcphdhmkcdkaaGreatW.PrintLast Go.Proofs.YthkcphdhmkcdkaaGreatW.PrintMore
attribute [local go_sem] max2_int min2_int max_two min_two max_three min_three max_four min_four   -- for this text's walks alone
open Go.Proofs.YthkcphdhmkcdkaaGreat.FX Go.Proofs.YthkcphdhmkcdkaaGreat.FB Go.Proofs.YthkcphdhmkcdkaaGreat.FP Go.Proofs.YthkcphdhmkcdkaaGreat.FQ
attribute [local go_sem] run_store_float run_neg_float run_fmul run_fadd run_fsub run_fdiv run_ftoi isSome_setCell 
set_option linter.unusedVariables false
set_option linter.unusedSimpArgs false



def errW : Option Int → Value
  | none => .nilIface
  | some c => .iface 0 (.int .i64 c)
theorem errW_none : errW none = .nilIface := rfl
theorem errW_some (c : Int) : errW (some c) = .iface 0 (.int .i64 c) := rfl

-- the values' own types
end
end Go.Proofs.YthkcphdhmkcdkaaGreat.FV2
