/- law 25's awake holds. -/
import Derived.Test.YtepcegiciecogaaFHx1
namespace Go.Proofs.Ytepcegiciecogaa.FH
open Go.RowKit Go.Proofs.YtepcegiciecogaaW.PrintWords Go.Proofs.YtepcegiciecogaaW.PrintLast Go.Proofs.YtepcegiciecogaaW.PrintMore Tn
open Go.Proofs.Ytepcegiciecogaa.FX Go.Proofs.Ytepcegiciecogaa.FG
theorem awake25_f : tenorlaw25_awake.f 30 = some true := by decide +kernel
end Go.Proofs.Ytepcegiciecogaa.FH
namespace Go.Proofs.Ytepcegiciecogaa.FX
open Go.RowKit Go.Proofs.YtepcegiciecogaaW.PrintWords
def law25_awake.f : Option Bool := some true
theorem law25_awake.calls (r : Bool) (w : World) (h : law25_awake.f = some r) : Calls Try.prog 21 #[] w fun e w' => e = .returned (.bool r) ∧ Below w.heap.size w w' :=
  FH.tenorlaw25_awake.calls 30 r w (FH.awake25_f.trans h)
end Go.Proofs.Ytepcegiciecogaa.FX
