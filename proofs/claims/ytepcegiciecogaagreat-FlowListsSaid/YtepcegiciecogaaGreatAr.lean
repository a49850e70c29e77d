/- law 14's awake holds. -/
import Derived.Test.YtepcegiciecogaaGreatFCx2
namespace Go.Proofs.YtepcegiciecogaaGreat.FC
open Go.RowKit Go.Proofs.YtepcegiciecogaaGreatW.PrintWords Go.Proofs.YtepcegiciecogaaGreatW.PrintLast Go.Proofs.YtepcegiciecogaaGreatW.PrintMore Tn
open Go.Proofs.YtepcegiciecogaaGreat.FX Go.Proofs.YtepcegiciecogaaGreat.FB
theorem awake14_f : tenorlaw14_awake.f 20 = some true := by decide +kernel
end Go.Proofs.YtepcegiciecogaaGreat.FC
namespace Go.Proofs.YtepcegiciecogaaGreat.FX
open Go.RowKit Go.Proofs.YtepcegiciecogaaGreatW.PrintWords
def law14_awake.f : Option Bool := some true
theorem law14_awake.calls (r : Bool) (w : World) (h : law14_awake.f = some r) : Calls Tryz.prog 8 #[] w fun e w' => e = .returned (.bool r) ∧ Below w.heap.size w w' :=
  FC.tenorlaw14_awake.calls 20 r w (FC.awake14_f.trans h)
end Go.Proofs.YtepcegiciecogaaGreat.FX
