/- Written by the session's fprint.py out of the translation. -/
import Derived.Test.YtepcegiciecogaaGreatProg
import Derived.Below
import Derived.Deep.Draws
import Derived.Deep.AppendLies
import Derived.Maps.AppendAt
import Derived.OwnWalk
import Derived.Laws.BytesArg
import Derived.Laws.MakeOwn
import Derived.Laws.OwnMore
import Derived.Deep.OwnRows
import Derived.Tactics
import Derived.Lib.ConvBytes
import Derived.Laws.Slices
import Derived.WalkKit
import Derived.KernelRfl
import Derived.RowKit3
import Derived.Deep.LoopGhost
import Derived.Deep.QuietTactic
import Derived.BigQuiet
import Derived.WideLaws
import Derived.Deep.DeepCutAuto
import Derived.Deep.CutBlock
import Derived.Deep.RegionHeld3
import Derived.Laws.Rows
import Derived.Lib.AppendStr
import Derived.ArgAppend
import Derived.Laws.IdiomCopy
import Derived.OrdersHeld
import Derived.Laws.BitsLemmas
import Derived.RowKit
import Derived.Test.YtepcegiciecogaaGreatAq
import Derived.Test.YtepcegiciecogaaGreatFBx0
import Derived.Test.YtepcegiciecogaaGreatFBx1
import Derived.Test.YtepcegiciecogaaGreatFBx2
import Derived.Test.YtepcegiciecogaaGreatFBx3
import Derived.Test.YtepcegiciecogaaGreatFBx4
import Derived.Test.YtepcegiciecogaaGreatAr
import Derived.Test.YtepcegiciecogaaGreatFRx1
import Derived.Test.YtepcegiciecogaaGreatFRx3
import Derived.Test.YtepcegiciecogaaGreatFRx5
import Derived.Test.YtepcegiciecogaaGreatFRx7
import Derived.Test.YtepcegiciecogaaGreatFRx9
import Derived.Test.YtepcegiciecogaaGreatFDax1
import Derived.Test.YtepcegiciecogaaGreatFDax3
import Derived.Test.YtepcegiciecogaaGreatFSx1
import Derived.Test.YtepcegiciecogaaGreatZ0
namespace Go.Proofs.YtepcegiciecogaaGreat.FL
open Go.RowKit Go.Proofs.YtepcegiciecogaaGreatW.PrintWords Go.Proofs.YtepcegiciecogaaGreatW.PrintLast Go.Proofs.YtepcegiciecogaaGreatW.PrintMore
attribute [local go_sem] max2_int min2_int max_two min_two max_three min_three max_four min_four   -- for this text's walks alone
open Go.Proofs.YtepcegiciecogaaGreat.FX Go.Proofs.YtepcegiciecogaaGreat.FB Go.Proofs.YtepcegiciecogaaGreat.FR Go.Proofs.YtepcegiciecogaaGreat.FDa
attribute [local go_sem] run_store_float run_neg_float run_fmul isSome_setCell run_equalIn_float
set_option linter.unusedVariables false
set_option linter.unusedSimpArgs false



def errW : Option Int → Value
  | none => .nilIface
  | some c => .iface 0 (.int .i64 c)
theorem errW_none : errW none = .nilIface := rfl
theorem errW_some (c : Int) : errW (some c) = .iface 0 (.int .i64 c) := rfl

theorem info46 : (Tryz.prog.info? 46).map (fun i => (i.zero, i.size, i.bytes)) = some (some (.agg #[(.int .i64 0), (.float .f64 0), (.int .i64 0)]), 3, 24) := by kernel_rfl
theorem info79 : (Tryz.prog.info? 79).map (fun i => (i.zero, i.size, i.bytes)) = some (some (.agg #[(.int .i64 0), (.int .u64 0), (.int .i64 0)]), 3, 24) := by kernel_rfl
-- the values' own types
end Go.Proofs.YtepcegiciecogaaGreat.FL
