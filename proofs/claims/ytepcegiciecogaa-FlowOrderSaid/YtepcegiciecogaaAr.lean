/- law 14's awake holds. -/
import Derived.Test.YtepcegiciecogaaFCx2
namespace Go.Proofs.Ytepcegiciecogaa.FC
open Go.RowKit Go.Proofs.YtepcegiciecogaaW.PrintWords Go.Proofs.YtepcegiciecogaaW.PrintLast Go.Proofs.YtepcegiciecogaaW.PrintMore Tn
open Go.Proofs.Ytepcegiciecogaa.FX Go.Proofs.Ytepcegiciecogaa.FB
theorem awake14_f : tenorlaw14_awake.f 20 = some true := by decide +kernel
end Go.Proofs.Ytepcegiciecogaa.FC
namespace Go.Proofs.Ytepcegiciecogaa.FX
open Go.RowKit Go.Proofs.YtepcegiciecogaaW.PrintWords
def law14_awake.f : Option Bool := some true
theorem law14_awake.calls (r : Bool) (w : World) (h : law14_awake.f = some r) : Calls Try.prog 11 #[] w fun e w' => e = .returned (.bool r) ∧ Below w.heap.size w w' :=
  FC.tenorlaw14_awake.calls 20 r w (FC.awake14_f.trans h)
end Go.Proofs.Ytepcegiciecogaa.FX
